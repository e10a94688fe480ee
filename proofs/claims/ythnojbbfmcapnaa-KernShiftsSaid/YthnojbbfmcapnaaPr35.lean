-- printed by a program of this session's (wip/mp.sh), out of the translation; the texts of its folder 'given' are typed by hand
-- shortened (wip/short.py)
import Derived.Test.YthnojbbfmcapnaaPr0
import Derived.Test.YthnojbbfmcapnaaPr26
import Derived.Test.YthnojbbfmcapnaaDr
namespace Go.Proofs.Ythnojbbfmcapnaa.Pr
open Go.RowKit Go.Proofs.YthnojbbfmcapnaaW.PrintWords Go.Proofs.YthnojbbfmcapnaaW.PrintLast Go.Proofs.YthnojbbfmcapnaaW.PrintMore
attribute [local go_sem] max2_int min2_int max_two min_two max_three min_three max_four min_four   -- for this text's walks alone
set_option linter.unusedVariables false
set_option linter.unusedSimpArgs false

/-! ### pochoirref40_Shift: function 18 -/
def pochoirref40_Shift.l0 : Nat → List (S41) → List (S43) → List (S43) → Int → Int → Option ((List (S43)))
 | 0, _, _, _, _, _ => none
 | k + 1, x0, x1, x5, x6, x7 => if x7 < (x1.length : Int) then (if 0 ≤ x7 then (if x7 > 0 then (if 0 ≤ (wrap64 (x7 - 1)) then (if (wrap64 (x7 - 1)) < (x1.length : Int) then (if ((rd_T43 x1 (wrap64 (x7 - 1))).f2) = ((rd_T43 x1 x7).f2) then ((pochoirref40_By.f k x0 ((rd_T43 x1 (wrap64 (x7 - 1))).f0) ((rd_T43 x1 x7).f0)).bind fun ag => (if x5.length < 5864062014805 then (pochoirref40_Shift.l0 k x0 x1 (x5 ++ [(⟨(rd_T43 x1 x7).f0, wrap64 (((rd_T43 x1 x7).f1) + (wrap64 (x6 + ag))), (rd_T43 x1 x7).f2⟩ : S43)]) (wrap64 (x6 + ag)) (wrap64 (x7 + 1))) else (none))) else (if x5.length < 5864062014805 then (pochoirref40_Shift.l0 k x0 x1 (x5 ++ [(⟨(rd_T43 x1 x7).f0, wrap64 (((rd_T43 x1 x7).f1) + 0), (rd_T43 x1 x7).f2⟩ : S43)]) 0 (wrap64 (x7 + 1))) else (none))) else (none)) else (none)) else (if x5.length < 5864062014805 then (pochoirref40_Shift.l0 k x0 x1 (x5 ++ [(⟨(rd_T43 x1 x7).f0, wrap64 (((rd_T43 x1 x7).f1) + 0), (rd_T43 x1 x7).f2⟩ : S43)]) 0 (wrap64 (x7 + 1))) else (none))) else (none)) else (some x5)
def pochoirref40_Shift.f (k : Nat) (l0 : List (S41)) (l1 : List (S43)) : Option ((List (S43))) := pochoirref40_Shift.l0 k l0 l1 ([] : List (S43)) 0 0
theorem pochoirref40_Shift.mono_l : ∀ k, (∀ y0 y1 y2 y3 y4, LeO (pochoirref40_Shift.l0 k y0 y1 y2 y3 y4) (pochoirref40_Shift.l0 (k + 1) y0 y1 y2 y3 y4))
 | 0 => fun _ _ _ _ _ r h => by simp [pochoirref40_Shift.l0] at h
 | k + 1 => by
  have ih0 := pochoirref40_Shift.mono_l k
  ·intro y0 y1 y2 y3 y4
   unfold pochoirref40_Shift.l0
   repeat' first
   | (with_reducible exact ih0 _ _ _ _ _)
   | (with_reducible exact pochoirref40_By.mono _ _ _ _)
   | (with_reducible exact LeO.refl _)
   | (with_reducible exact LeO.none _)
   | (with_reducible refine LeO.ite ?_ ?_)
   | (with_reducible refine LeO.bind ?_ (fun _ => ?_))
   | exact ih0 _ _ _ _ _
   | exact pochoirref40_By.mono _ _ _ _
   | exact LeO.none _
   | refine LeO.ite ?_ ?_
   | refine LeO.bind ?_ (fun _ => ?_)
theorem pochoirref40_Shift.mono : ∀ a0 a1 k, LeO (pochoirref40_Shift.f k a0 a1) (pochoirref40_Shift.f (k + 1) a0 a1) := by
 intro a0 a1 k
 have ih0 := pochoirref40_Shift.mono_l k
 unfold pochoirref40_Shift.f
 repeat' first
   | (with_reducible exact ih0 _ _ _ _ _)
   | (with_reducible exact pochoirref40_By.mono _ _ _ _)
   | (with_reducible exact LeO.refl _)
   | (with_reducible exact LeO.none _)
   | (with_reducible refine LeO.ite ?_ ?_)
   | (with_reducible refine LeO.bind ?_ (fun _ => ?_))
   | exact ih0 _ _ _ _ _
   | exact pochoirref40_By.mono _ _ _ _
   | exact LeO.none _
   | refine LeO.ite ?_ ?_
   | refine LeO.bind ?_ (fun _ => ?_)
theorem pochoirref40_Shift.far_ {w : World} {base : Nat} {v : Value} {xs : List S43} (h : Kd.R k43 43 w base (fun _ => True) v xs) (o : Obj) (m : Nat) (a : Addr) (ha : a.block = w.heap.size) (u : Value) : Kd.R k43 43 (((w.alloc o).drewN m).setCell a u) base (fun _ => True) v xs :=
 Kd.R_step h (fun k _ hk => (Below.heap_setCell _ _ _ _ (by omega)).trans (MapKept.heap_alloc w o |>.2 k hk))
theorem pochoirref40_Shift.farB_ {w w1 : World} (h : Below w.heap.size w w1) (o : Obj) (m : Nat) (a : Addr) (ha : a.block = w1.heap.size) (u : Value) : Below w.heap.size w (((w1.alloc o).drewN m).setCell a u) := (pw_below_drewN (below_alloc h o) m).setCell (by rw [ha]; exact h.size) u
set_option maxHeartbeats 4000000 in
set_option maxRecDepth 100000 in
theorem pochoirref40_Shift.calls (k : Nat) (A0 : Option Addr) (c0 : Nat) (l0 : List (S41)) (A1 : Option Addr) (c1 : Nat) (l1 : List (S43)) (r : List (S43)) (w : World) (ai : Kd.C k41 w A0 l0.length l0) (aj : l0.length ≤ c0) (ah : Kd.C k43 w A1 l1.length l1) (al : l1.length ≤ c1) (h : pochoirref40_Shift.f k l0 l1 = some r) :
  Calls Try.prog 18 #[.slice A0 l0.length c0, .slice A1 l1.length c1] w fun e w' => ∃ v0_ : Value, e = .returned (v0_) ∧ Kd.R k43 43 w' w.heap.size (fun _ => True) v0_ r ∧ Below w.heap.size w w' := by
 have H' := Aside0.mk (show pochoirref40_Shift.l0 k l0 l1 [] 0 0 = some r from h)
 have am := Aside0.mk ai
 have an := Aside0.mk ah
 have HL0 := Aside0.mk aj
 have HL1 := Aside0.mk ah.2.1
 clear h ai ah aj al
 go_enter Try.func18, Try.ntmps18
 go_wp2
 go_loopg [5, 6, 7] k (fun kq v5 v6 v7 w' => ∃ (by_ i : Int) (out : List S43), v6 = .int .i64 by_ ∧ v7 = .int .i64 i ∧ Aside0 (pochoirref40_Shift.l0 kq l0 l1 out by_ i = some r) ∧ Aside0 (kq ≤ k) ∧ Aside0 (Kd.R k43 43 w' w.heap.size (fun _ => True) v5 out) ∧ Aside0 (Below w.heap.size w w'))
 case atStart => exact ⟨0, 0, [], rfl, rfl, H', ⟨Nat.le_refl _⟩, ⟨Kd.R_nil _ _ _ _ _⟩, ⟨Below.refl _ _⟩⟩
 case round =>
  clear H'
  obtain ⟨by_, i, out, rfl, rfl, H, HK, HO, HB⟩ := hrel
  cases gk with
  | zero => exact absurd H.out (by simp [pochoirref40_Shift.l0])
  | succ k1 =>
  replace H := H.out
  simp only [pochoirref40_Shift.l0] at H
  by_cases q1 : i < (l1.length : Int)
  ·rw [if_pos q1] at H
   by_cases q2 : 0 ≤ i
   ·rw [if_pos q2] at H
    have hC := Kd.C_below an.out HB.out
    have hC0 := Aside0.mk (Kd.C_below am.out HB.out)
    obtain ⟨ad, e, x0, x1, x2⟩ := at_T43 hC i q2 q1
    cases e
    have HC := Aside0.mk hC
    clear hC
    have q1b := decide_eq_true q1
    by_cases q3 : i > 0
    ·rw [if_pos q3] at H
     have q3b : decide (0 < i) = true := decide_eq_true q3
     obtain ⟨j, hj⟩ : ∃ j, wrap64 (i - 1) = j := ⟨_, rfl⟩
     have hjw : IntKind.i64.wrap (i - 1) = j := (i64_w _).trans hj
     rw [hj] at H
     clear hj
     have HJ := Aside0.mk hjw
     clear hjw
     by_cases q4 : 0 ≤ j
     rotate_left
     ·rw [if_neg q4] at H
      cases H
     rw [if_pos q4] at H
     by_cases q5 : j < (l1.length : Int)
     rotate_left
     ·rw [if_neg q5] at H
      cases H
     rw [if_pos q5] at H
     obtain ⟨ad3, e, z0, z1, z2⟩ := at_T43 HC.out j q4 q5
     obtain rfl : ad = ad3 := by injection e
     clear e
     have hlt : (ad.add (j.toNat * 3)).block < _ := World.block_lt_of_cell? _ _ z0
     replace q4 := eq_true q4
     replace q5 := eq_true q5
     replace q1 := eq_true q1
     replace q2 := eq_true q2
     by_cases q6 : (rd_T43 l1 j).f2 = (rd_T43 l1 i).f2
     ·rw [if_pos q6] at H
      have q6b : ((rd_T43 l1 j).f2 == (rd_T43 l1 i).f2) = true := beq_iff_eq.mpr q6
      obtain ⟨b, hb, H⟩ := Option.bind_eq_some_iff.mp H
      have HBY := Aside0.mk hb
      clear hb q6 q3
      by_cases q7 : out.length < 5864062014805
      rotate_left
      ·rw [if_neg q7] at H
       cases H
      rw [if_pos q7] at H
      have H' := Aside0.mk H
      have HQ := Aside0.mk q7
      clear H q7
      have hJ := HJ.out
      go_wp2
      go_quiet (fail)
      go_wp2
      go_quiet ((go_at_call 12; exact quiet_add ((pochoirref40_By.calls k1 A0 c0 l0 _ _ b _ (Kd.C_below hC0.out (by repeat (first | exact Below.refl _ _ | apply pw_below_drewN | apply below_alloc))) HL0.out HBY.out).mono fun _ _ ⟨he, hd⟩ => ⟨he, hd.out⟩)))
      go_wp2_with (at_builtin; refine Kd.R_append k43 (w0 := w) w.heap.size rfl (.tmp 49) (.tmp 51) 39 43 (.agg #[(.int .i64 0), (.int .i64 0), (.int .i64 0)]) 24 rfl Try.underlying39 info43 rfl (by decide) (by omega) _ out ⟨(rd_T43 l1 i).f0, wrap64 ((rd_T43 l1 i).f1 + wrap64 (by_ + b)), (rd_T43 l1 i).f2⟩ [.int .i64 (rd_T43 l1 i).f0, .int .i64 (wrap64 ((rd_T43 l1 i).f1 + wrap64 (by_ + b))), .int .i64 (rd_T43 l1 i).f2] (fun _ => True) (fun _ => False) rfl ?hx (k43_mkM _ _ _ ⟨(rd_T43 l1 i).f0, wrap64 ((rd_T43 l1 i).f1 + wrap64 (by_ + b)), (rd_T43 l1 i).f2⟩) (fun _ h => h.elim) (fun _ _ => trivial) (pochoirref40_Shift.far_ HO.out _ _ _ rfl _) (pochoirref40_Shift.farB_ HB.out _ _ _ rfl _) ?hS ?hL ?_; (case hx => first | rfl | (simp; done) | (simp; rfl)); (case hS => have := HB.out.size; simp; omega); (case hL => have := HQ.out; omega); intro v1 w1 ho hb _ _; have ac := Aside0.mk ho; have HB1 := Aside0.mk hb; clear ho hb)
      go_roundg k1
      case measure => omega
      case rel => exact ⟨_, _, _, rfl, rfl, H', ⟨by have := HK.out; omega⟩, ac, HB1⟩
     ·rw [if_neg q6] at H
      have q6b : ((rd_T43 l1 j).f2 == (rd_T43 l1 i).f2) = false := beq_eq_false_iff_ne.mpr q6
      clear q6 q3
      by_cases q7 : out.length < 5864062014805
      rotate_left
      ·rw [if_neg q7] at H
       cases H
      rw [if_pos q7, Int.add_zero] at H
      have H' := Aside0.mk H
      have HQ := Aside0.mk q7
      clear H q7
      have hJ := HJ.out
      go_wp2
      go_quiet (fail)
      go_wp2_with (at_builtin; refine Kd.R_append k43 (w0 := w) w.heap.size rfl (.tmp 49) (.tmp 51) 39 43 (.agg #[(.int .i64 0), (.int .i64 0), (.int .i64 0)]) 24 rfl Try.underlying39 info43 rfl (by decide) (by omega) _ out ⟨(rd_T43 l1 i).f0, wrap64 ((rd_T43 l1 i).f1), (rd_T43 l1 i).f2⟩ [.int .i64 (rd_T43 l1 i).f0, .int .i64 (wrap64 ((rd_T43 l1 i).f1)), .int .i64 (rd_T43 l1 i).f2] (fun _ => True) (fun _ => False) rfl ?hx (k43_mkM _ _ _ ⟨(rd_T43 l1 i).f0, wrap64 ((rd_T43 l1 i).f1), (rd_T43 l1 i).f2⟩) (fun _ h => h.elim) (fun _ _ => trivial) (pochoirref40_Shift.far_ HO.out _ _ _ rfl _) (pochoirref40_Shift.farB_ HB.out _ _ _ rfl _) ?hS ?hL ?_; (case hx => first | rfl | (simp; done) | (simp; rfl)); (case hS => have := HB.out.size; simp; omega); (case hL => have := HQ.out; omega); intro v1 w1 ho hb _ _; have ac := Aside0.mk ho; have HB1 := Aside0.mk hb; clear ho hb)
      go_roundg k1
      case measure => omega
      case rel => exact ⟨_, _, _, rfl, rfl, H', ⟨by have := HK.out; omega⟩, ac, HB1⟩
    ·rw [if_neg q3] at H
     have q3b : decide (0 < i) = false := decide_eq_false q3
     clear q3
     replace q1 := eq_true q1
     replace q2 := eq_true q2
     by_cases q7 : out.length < 5864062014805
     rotate_left
     ·rw [if_neg q7] at H
      cases H
     rw [if_pos q7, Int.add_zero] at H
     have H' := Aside0.mk H
     have HQ := Aside0.mk q7
     clear H q7
     go_wp2
     go_quiet (fail)
     go_wp2_with (at_builtin; refine Kd.R_append k43 (w0 := w) w.heap.size rfl (.tmp 49) (.tmp 51) 39 43 (.agg #[(.int .i64 0), (.int .i64 0), (.int .i64 0)]) 24 rfl Try.underlying39 info43 rfl (by decide) (by omega) _ out ⟨(rd_T43 l1 i).f0, wrap64 ((rd_T43 l1 i).f1), (rd_T43 l1 i).f2⟩ [.int .i64 (rd_T43 l1 i).f0, .int .i64 (wrap64 ((rd_T43 l1 i).f1)), .int .i64 (rd_T43 l1 i).f2] (fun _ => True) (fun _ => False) rfl ?hx (k43_mkM _ _ _ ⟨(rd_T43 l1 i).f0, wrap64 ((rd_T43 l1 i).f1), (rd_T43 l1 i).f2⟩) (fun _ h => h.elim) (fun _ _ => trivial) (pochoirref40_Shift.far_ HO.out _ _ _ rfl _) (pochoirref40_Shift.farB_ HB.out _ _ _ rfl _) ?hS ?hL ?_; (case hx => first | rfl | (simp; done) | (simp; rfl)); (case hS => have := HB.out.size; simp; omega); (case hL => have := HQ.out; omega); intro v1 w1 ho hb _ _; have ac := Aside0.mk ho; have HB1 := Aside0.mk hb; clear ho hb)
     go_roundg k1
     case measure => omega
     case rel => exact ⟨_, _, _, rfl, rfl, H', ⟨by have := HK.out; omega⟩, ac, HB1⟩
   ·rw [if_neg q2] at H
    cases H
  ·rw [if_neg q1] at H
   obtain rfl := Option.some.inj H
   have q1b := decide_eq_false q1
   clear H q1
   obtain ⟨Ao, co, hv, _, _⟩ := Kd.R_reads HO.out
   subst hv
   go_wp2
   go_ret
   exact ⟨_, rfl, HO.out, HB.out⟩

end Go.Proofs.Ythnojbbfmcapnaa.Pr
