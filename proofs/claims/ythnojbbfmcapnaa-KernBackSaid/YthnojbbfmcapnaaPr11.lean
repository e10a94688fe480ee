-- printed by a program of this session's (wip/mp.sh), out of the translation; the texts of its folder 'given' are typed by hand
-- shortened (wip/short.py)
import Derived.Test.YthnojbbfmcapnaaPr0
import Derived.Test.YthnojbbfmcapnaaPr7
import Derived.Test.YthnojbbfmcapnaaPr10
namespace Go.Proofs.Ythnojbbfmcapnaa.Pr
open Go.RowKit Go.Proofs.YthnojbbfmcapnaaW.PrintWords Go.Proofs.YthnojbbfmcapnaaW.PrintLast Go.Proofs.YthnojbbfmcapnaaW.PrintMore
attribute [local go_sem] max2_int min2_int max_two min_two max_three min_three max_four min_four   -- for this text's walks alone
set_option linter.unusedVariables false
set_option linter.unusedSimpArgs false

/-! ### kern_ahead: function 20 -/
def kern_ahead.f (k : Nat) (a0 : Int) : Option (ByteArray) := (kern_p16.f k (([0, 1, 0, wrap64 (14 + (wrap64 (6 * a0))), 1, a0] : List Int))).bind fun ab => ((kern_search.f k a0).bind fun aa => (if ab.size + aa.size ≤ 9223372036854775807 then (some (ab ++ aa)) else (none)))
theorem kern_ahead.mono : ∀ a0 k, LeO (kern_ahead.f k a0) (kern_ahead.f (k + 1) a0) := by
 intro a0 k
 unfold kern_ahead.f
 repeat' first
   | (with_reducible exact kern_p16.mono _ _)
   | (with_reducible exact kern_search.mono _ _)
   | (with_reducible exact LeO.refl _)
   | (with_reducible exact LeO.none _)
   | (with_reducible refine LeO.ite ?_ ?_)
   | (with_reducible refine LeO.bind ?_ (fun _ => ?_))
   | exact kern_p16.mono _ _
   | exact kern_search.mono _ _
   | exact LeO.none _
   | refine LeO.ite ?_ ?_
   | refine LeO.bind ?_ (fun _ => ?_)
set_option maxHeartbeats 8000000 in
set_option maxRecDepth 100000 in
theorem kern_ahead.calls (k : Nat) (a0 : Int) (r : ByteArray) (w : World) (h : kern_ahead.f k a0 = some r) :
  Calls Try.prog 20 #[.int .i64 a0] w fun e w' => e = .returned (.string r) ∧ Below w.heap.size w w' := by
 have HB := Aside0.mk (Below.refl w.heap.size w)
 have H : ((kern_p16.f k (([0, 1, 0, wrap64 (14 + (wrap64 (6 * a0))), 1, a0] : List Int))).bind fun ab => ((kern_search.f k a0).bind fun aa => (if ab.size + aa.size ≤ 9223372036854775807 then (some (ab ++ aa)) else (none)))) = some r := h
 clear h
 obtain ⟨ah, ad⟩ : ∃ y_ : List Int, y_ = (([0, 1, 0, wrap64 (14 + (wrap64 (6 * a0))), 1, a0] : List Int)) := ⟨_, rfl⟩
 replace H : ((kern_p16.f k ah).bind fun ab => ((kern_search.f k a0).bind fun aa => (if ab.size + aa.size ≤ 9223372036854775807 then (some (ab ++ aa)) else (none)))) = some r := by first | (rw [ad]; with_reducible exact H) | (have H2_ := (Option.bind_some _ _).symm.trans H; rw [ad]; with_reducible exact H2_) | (have H2_ := (Option.bind_some _ _).symm.trans H; with_reducible exact H2_) | with_reducible exact H | (rw [ad]; exact H) | exact H
 have Ny133 := Aside0.mk ad
 clear ad
 replace H := Option.bind_eq_some_iff.mp H
 obtain ⟨ab, A20, H⟩ := H
 replace H : ((kern_search.f k a0).bind fun aa => (if ab.size + aa.size ≤ 9223372036854775807 then (some (ab ++ aa)) else (none))) = some r := H
 have A2 := Aside0.mk A20
 clear A20
 replace H := Option.bind_eq_some_iff.mp H
 obtain ⟨aa, A30, H⟩ := H
 replace H : (if ab.size + aa.size ≤ 9223372036854775807 then (some (ab ++ aa)) else (none)) = some r := H
 have A3 := Aside0.mk A30
 clear A30
 by_cases c4 : ab.size + aa.size ≤ 9223372036854775807
 ·rw [if_pos c4] at H
  have al := eq_true c4
  have am : decide (ab.size + aa.size ≤ 9223372036854775807) = true := decide_eq_true c4
  try have an : (9223372036854775807 < ab.size + aa.size) = False := eq_false (Nat.not_lt.2 c4)
  obtain rfl := Option.some.inj H
  go_enter Try.func20, Try.ntmps20
  go_wp2_with (first | ((with_reducible refine gate_dst (N := 7) rfl ?_); refine Kd.R_lit (Kd.int .i64) _ 3 ?hg (N := 7) ?hd (xs := ([0, 1, 0, wrap64 (14 + (wrap64 (6 * a0))), 1, a0] : List Int)) (inner := [.int .i64 0, .int .i64 1, .int .i64 0, .int .i64 (wrap64 (14 + (wrap64 (6 * a0)))), .int .i64 1, .int .i64 a0]) (ok := fun _ => True) (okp := fun _ => True) ?hr ?hp (fun _ hk => hk) trivial (Below.refl _ _) (Nat.le_refl _) (by simp) ?_; (case hd => rfl); (case hg => rfl); (case hr => first | (go_simp; done) | (go_simp; rfl)); (case hp => exact (Reps.one (show Kd.M (Kd.int .i64) _ _ _ 0 [.int .i64 0] from rfl) (Reps.one (show Kd.M (Kd.int .i64) _ _ _ 1 [.int .i64 1] from rfl) (Reps.one (show Kd.M (Kd.int .i64) _ _ _ 0 [.int .i64 0] from rfl) (Reps.one (show Kd.M (Kd.int .i64) _ _ _ (wrap64 (14 + (wrap64 (6 * a0)))) [.int .i64 (wrap64 (14 + (wrap64 (6 * a0))))] from rfl) (Reps.one (show Kd.M (Kd.int .i64) _ _ _ 1 [.int .i64 1] from rfl) (Reps.one (show Kd.M (Kd.int .i64) _ _ _ a0 [.int .i64 a0] from rfl) (Reps.none _ _)))))))); intro v134 w5 ag hb hg_ hnew_; clear hg_ hnew_; (first | rw [← Ny133.out] at ag | (simp only [Int.reduceToNat] at ag; rw [← Ny133.out] at ag)); have ae := Aside0.mk (Kd.R_lower ag (below_size (by exact lB HB.out))); have af := Aside0.mk (below_step (by exact lB HB.out) hb); clear HB; have ac := ae; have HB := af; clear ae af; clear hb ag; obtain ⟨ai, aj, eo7⟩ := Kd.R_slice ac.out; subst eo7) | ((with_reducible refine gate_callee (f := 21) rfl ?_); refine goesL_ (some 8) rfl rfl Try.func21 (by kernel_rfl) rfl #[.slice ai ah.length aj] rfl (by (try simp only [List.map_toArray, List.map_cons, List.map_nil]); first | done | rfl | (simp only [List.length_drop, List.length_take]; rfl)) ?_; (with_reducible refine (kern_p16.calls k _ _ ah ab _ ?side1 ?side2 A2.out).mono ?_); (case side1 => repeat (first | exact (Kd.R_reads' ac.out).2.2 | (with_reducible refine Kd.C_alloc ?_ _) | (with_reducible refine Kd.C_drewN ?_ _) | (with_reducible refine Kd.C_drew ?_))); (case side2 => exact (Kd.R_reads' ac.out).2.1); rintro e w8 ⟨rfl, hb⟩; refine ⟨_, rfl, ?_⟩; have ae := Aside0.mk (Kd.R_below (by (with_reducible repeat (first | apply Kd.R_alloc | apply Kd.R_drewN | apply Kd.R_drew)); exact ac.out) hb); have af := Aside0.mk (below_step (by exact lB HB.out) hb); clear ac; clear HB; have ac := ae; have HB := af; clear ae af; (try clear hb); (try clear ak); (try clear hk); (try clear hi)) | ((with_reducible refine gate_callee (f := 38) rfl ?_); refine goesL_ (some 10) rfl rfl Try.func38 (by kernel_rfl) rfl #[.int .i64 a0] rfl (by (try simp only [List.map_toArray, List.map_cons, List.map_nil]); first | done | rfl | (simp only [List.length_drop, List.length_take]; rfl)) ?_; (with_reducible refine (kern_search.calls k a0 aa _ A3.out).mono ?_); rintro e w9 ⟨rfl, hb⟩; refine ⟨_, rfl, ?_⟩; have ae := Aside0.mk (Kd.R_below (by (with_reducible repeat (first | apply Kd.R_alloc | apply Kd.R_drewN | apply Kd.R_drew)); exact ac.out) hb); have af := Aside0.mk (below_step (by exact lB HB.out) hb); clear ac; clear HB; have ac := ae; have HB := af; clear ae af; (try clear hb); (try clear ak); (try clear hk); (try clear hi)))
  go_ret
  exact ⟨by first | rfl | (simp [errW_none, errW_some] <;> rfl) | (simp [*, errW_none, errW_some] <;> rfl), by exact lB HB.out⟩
 ·rw [if_neg c4] at H
  exact absurd H (by simp)

-- NOT PRINTED: function 22 (strings_Builder_String)

end Go.Proofs.Ythnojbbfmcapnaa.Pr
