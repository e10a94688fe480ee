-- printed by a program of this session's (wip/mp.sh), out of the translation; the texts of its folder 'given' are typed by hand
-- shortened (wip/short.py)
import Derived.Test.YthnojbbfmcapnaaPr0
import Derived.Test.YthnojbbfmcapnaaPr7
import Derived.Test.YthnojbbfmcapnaaPr9
namespace Go.Proofs.Ythnojbbfmcapnaa.Pr
open Go.RowKit Go.Proofs.YthnojbbfmcapnaaW.PrintWords Go.Proofs.YthnojbbfmcapnaaW.PrintLast Go.Proofs.YthnojbbfmcapnaaW.PrintMore
attribute [local go_sem] max2_int min2_int max_two min_two max_three min_three max_four min_four   -- for this text's walks alone
set_option linter.unusedVariables false
set_option linter.unusedSimpArgs false

/-! ### bits_Len: function 48 -/
def bits_Len.f (a0 : Int) : Option (Int) := (bits_Len64.f a0).bind fun aa => (some aa)
set_option maxHeartbeats 8000000 in
set_option maxRecDepth 100000 in
theorem bits_Len.calls (a0 : Int) (r : Int) (w : World) (h : bits_Len.f a0 = some r) :
  Calls Try.prog 48 #[.int .u64 a0] w fun e w' => e = .returned (.int .i64 r) ∧ Below w.heap.size w w' := by
 have HB := Aside0.mk (Below.refl w.heap.size w)
 have H : ((bits_Len64.f a0).bind fun aa => (some aa)) = some r := h
 clear h
 replace H := Option.bind_eq_some_iff.mp H
 obtain ⟨aa, A20, H⟩ := H
 replace H : (some aa) = some r := H
 have A2 := Aside0.mk A20
 clear A20
 obtain rfl := Option.some.inj H
 go_enter Try.func48, Try.ntmps48
 go_wp2_with (first | ((with_reducible refine gate_callee (f := 55) rfl ?_); refine goesL_ (some 7) rfl rfl Try.func55 (by kernel_rfl) rfl #[.int .u64 a0] rfl (by (try simp only [List.map_toArray, List.map_cons, List.map_nil]); first | done | rfl | (simp only [List.length_drop, List.length_take]; rfl)) ?_; (with_reducible refine (bits_Len64.calls a0 aa _ A2.out).mono ?_); rintro e w3 ⟨rfl, hb⟩; refine ⟨_, rfl, ?_⟩; have ab := Aside0.mk (below_step (by exact lB HB.out) hb); clear HB; have HB := ab; clear ab; (try clear hb); (try clear ac); (try clear hk); (try clear hi)))
 go_ret
 exact ⟨by first | rfl | (simp [errW_none, errW_some] <;> rfl) | (simp [*, errW_none, errW_some] <;> rfl), by exact lB HB.out⟩

/-! ### kern_search: function 38 -/
def kern_search.f (k : Nat) (a0 : Int) : Option (ByteArray) := if a0 = 0 then ((kern_p16.f k (([0, 0, 0] : List Int))).bind fun af => (some af)) else ((bits_Len.f (IntKind.u64.wrap (a0))).bind fun aa => (if 0 ≤ (wrap64 (aa - 1)) then ((kern_p16.f k (([shl .i64 6 (wrap64 (aa - 1)), wrap64 (aa - 1), wrap64 ((wrap64 (6 * a0)) - (shl .i64 6 (wrap64 (aa - 1))))] : List Int))).bind fun ad => (some ad)) else (none)))
theorem kern_search.mono : ∀ a0 k, LeO (kern_search.f k a0) (kern_search.f (k + 1) a0) := by
 intro a0 k
 unfold kern_search.f
 repeat' first
   | (with_reducible exact kern_p16.mono _ _)
   | (with_reducible exact LeO.refl _)
   | (with_reducible exact LeO.none _)
   | (with_reducible refine LeO.ite ?_ ?_)
   | (with_reducible refine LeO.bind ?_ (fun _ => ?_))
   | exact kern_p16.mono _ _
   | exact LeO.none _
   | refine LeO.ite ?_ ?_
   | refine LeO.bind ?_ (fun _ => ?_)
def kern_search.T4 : Bool × List (List Nat × List Nat) := (true, [([], []), ([0], [0]), ([], []), ([], []), ([3], [3]), ([], []), ([5], [5]), ([4, 6], [4, 6]), ([1, 2, 7], [1, 2, 7]), ([8], [8]), ([9, 9, 0, 1, 2, 3, 4, 5, 6, 7, 8, 9], [9])])
def kern_search.B4 : List Nat := [0, 1, 0, 0, 8, 0, 32, 120, 255, 511, 1023]
theorem kern_search.tab4 : rtab .any (opsOf Try.f38 4) = kern_search.T4 := by kernel_rfl
theorem kern_search.bits4 : waitsOk kern_search.T4.2 kern_search.B4 = true := by kernel_rfl
set_option maxHeartbeats 8000000 in
set_option maxRecDepth 100000 in
theorem kern_search.calls (k : Nat) (a0 : Int) (r : ByteArray) (w : World) (h : kern_search.f k a0 = some r) :
  Calls Try.prog 38 #[.int .i64 a0] w fun e w' => e = .returned (.string r) ∧ Below w.heap.size w w' := by
 have HB := Aside0.mk (Below.refl w.heap.size w)
 have H : (if a0 = 0 then ((kern_p16.f k (([0, 0, 0] : List Int))).bind fun af => (some af)) else ((bits_Len.f (IntKind.u64.wrap (a0))).bind fun aa => (if 0 ≤ (wrap64 (aa - 1)) then ((kern_p16.f k (([shl .i64 6 (wrap64 (aa - 1)), wrap64 (aa - 1), wrap64 ((wrap64 (6 * a0)) - (shl .i64 6 (wrap64 (aa - 1))))] : List Int))).bind fun ad => (some ad)) else (none)))) = some r := h
 clear h
 by_cases c2 : a0 = 0
 ·rw [if_pos c2] at H
  have aw : (a0 == 0) = true := beq_iff_eq.mpr c2
  have ax : (a0 != 0) = false := bne_eq_false_iff_eq.mpr c2
  clear c2
  obtain ⟨ap, ak⟩ : ∃ y_ : List Int, y_ = (([0, 0, 0] : List Int)) := ⟨_, rfl⟩
  replace H : ((kern_p16.f k ap).bind fun af => (some af)) = some r := by first | (rw [ak]; with_reducible exact H) | (have H2_ := (Option.bind_some _ _).symm.trans H; rw [ak]; with_reducible exact H2_) | (have H2_ := (Option.bind_some _ _).symm.trans H; with_reducible exact H2_) | with_reducible exact H | (rw [ak]; exact H) | exact H
  have Ny124 := Aside0.mk ak
  clear ak
  replace H := Option.bind_eq_some_iff.mp H
  obtain ⟨af, A30, H⟩ := H
  replace H : (some af) = some r := H
  have A3 := Aside0.mk A30
  clear A30
  obtain rfl := Option.some.inj H
  go_enter Try.func38, Try.ntmps38
  go_wp2_with (first | ((with_reducible refine gate_dst (N := 6) rfl ?_); refine Kd.R_lit (Kd.int .i64) _ 3 ?hg (N := 6) ?hd (xs := ([0, 0, 0] : List Int)) (inner := [.int .i64 0, .int .i64 0, .int .i64 0]) (ok := fun _ => True) (okp := fun _ => True) ?hr ?hp (fun _ hk => hk) trivial (Below.refl _ _) (Nat.le_refl _) (by simp) ?_; (case hd => rfl); (case hg => rfl); (case hr => first | (go_simp; done) | (go_simp; rfl)); (case hp => exact (Reps.one (show Kd.M (Kd.int .i64) _ _ _ 0 [.int .i64 0] from rfl) (Reps.one (show Kd.M (Kd.int .i64) _ _ _ 0 [.int .i64 0] from rfl) (Reps.one (show Kd.M (Kd.int .i64) _ _ _ 0 [.int .i64 0] from rfl) (Reps.none _ _))))); intro v125 w4 ao hb hg_ hnew_; clear hg_ hnew_; (first | rw [← Ny124.out] at ao | (simp only [Int.reduceToNat] at ao; rw [← Ny124.out] at ao)); have ae := Aside0.mk (Kd.R_lower ao (below_size (by exact lB HB.out))); have ag := Aside0.mk (below_step (by exact lB HB.out) hb); clear HB; have ah := ae; have HB := ag; clear ae ag; clear hb ao; obtain ⟨aA, aB, eo6⟩ := Kd.R_slice ah.out; subst eo6) | ((with_reducible refine gate_callee (f := 21) rfl ?_); refine goesL_ (some 7) rfl rfl Try.func21 (by kernel_rfl) rfl #[.slice aA ap.length aB] rfl (by (try simp only [List.map_toArray, List.map_cons, List.map_nil]); first | done | rfl | (simp only [List.length_drop, List.length_take]; rfl)) ?_; (with_reducible refine (kern_p16.calls k _ _ ap af _ ?side1 ?side2 A3.out).mono ?_); (case side1 => repeat (first | exact (Kd.R_reads' ah.out).2.2 | (with_reducible refine Kd.C_alloc ?_ _) | (with_reducible refine Kd.C_drewN ?_ _) | (with_reducible refine Kd.C_drew ?_))); (case side2 => exact (Kd.R_reads' ah.out).2.1); rintro e w7 ⟨rfl, hb⟩; refine ⟨_, rfl, ?_⟩; have ae := Aside0.mk (Kd.R_below (by (with_reducible repeat (first | apply Kd.R_alloc | apply Kd.R_drewN | apply Kd.R_drew)); exact ah.out) hb); have ag := Aside0.mk (below_step (by exact lB HB.out) hb); clear ah; clear HB; have ah := ae; have HB := ag; clear ae ag; (try clear hb); (try clear av); (try clear hk); (try clear hi)))
  go_ret
  exact ⟨by first | rfl | (simp [errW_none, errW_some] <;> rfl) | (simp [*, errW_none, errW_some] <;> rfl), by exact lB HB.out⟩
 ·rw [if_neg c2] at H
  have aw : (a0 == 0) = false := beq_eq_false_iff_ne.mpr c2
  have ax : (a0 != 0) = true := bne_iff_ne.mpr c2
  replace H := Option.bind_eq_some_iff.mp H
  obtain ⟨aa, A80, H⟩ := H
  replace H : (if 0 ≤ (wrap64 (aa - 1)) then ((kern_p16.f k (([shl .i64 6 (wrap64 (aa - 1)), wrap64 (aa - 1), wrap64 ((wrap64 (6 * a0)) - (shl .i64 6 (wrap64 (aa - 1))))] : List Int))).bind fun ad => (some ad)) else (none)) = some r := H
  have A8 := Aside0.mk A80
  clear A80
  obtain ⟨ac, am⟩ : ∃ j_ : Int, (wrap64 (aa - 1)) = j_ := ⟨_, rfl⟩
  replace H : (if 0 ≤ (ac) then ((kern_p16.f k (([shl .i64 6 (ac), ac, wrap64 ((wrap64 (6 * a0)) - (shl .i64 6 (ac)))] : List Int))).bind fun ad => (some ad)) else (none)) = some r := by first | (rw [am] at H; exact H) | (simp only [am] at H ⊢; exact H)
  (try rw [am] at A8)
  have hji9w : (IntKind.i64.wrap (aa - 1)) = ac := (i64_w _).trans am
  by_cases c10 : 0 ≤ (ac)
  ·rw [if_pos c10] at H
   have aD := eq_true c10
   have aE : decide (0 ≤ (ac)) = true := decide_eq_true c10
   clear c10
   obtain ⟨ab, ai⟩ : ∃ j_ : Int, (shl .i64 6 (ac)) = j_ := ⟨_, rfl⟩
   replace H : ((kern_p16.f k (([ab, ac, wrap64 ((wrap64 (6 * a0)) - (ab))] : List Int))).bind fun ad => (some ad)) = some r := by first | (rw [ai] at H; exact H) | (simp only [ai] at H ⊢; exact H)
   (try rw [ai] at A8)
   have ar : (IntKind.i64.wrap (6 * 2 ^ min (ac).toNat 64)) = ab := ai
   have au : (ac) ≤ 64 → (IntKind.i64.wrap (6 * 2 ^ (ac).toNat)) = ab := shl_small ai
   have hji11y : (wrap64 (6 * 2 ^ min (ac).toNat 64)) = ab := (i64_w _).symm.trans ar
   have hji11x : (ac) ≤ 64 → (wrap64 (6 * 2 ^ (ac).toNat)) = ab := fun h_ => (i64_w _).symm.trans (au h_)
   have aF := eq_true (of_decide_eq_true (by first | (with_reducible assumption) | assumption) : 0 ≤ (ac))
   obtain ⟨aq, al⟩ : ∃ y_ : List Int, y_ = (([ab, ac, wrap64 ((wrap64 (6 * a0)) - (ab))] : List Int)) := ⟨_, rfl⟩
   replace H : ((kern_p16.f k aq).bind fun ad => (some ad)) = some r := by first | (rw [al]; with_reducible exact H) | (have H2_ := (Option.bind_some _ _).symm.trans H; rw [al]; with_reducible exact H2_) | (have H2_ := (Option.bind_some _ _).symm.trans H; with_reducible exact H2_) | with_reducible exact H | (rw [al]; exact H) | exact H
   have Ny129 := Aside0.mk al
   clear al
   replace H := Option.bind_eq_some_iff.mp H
   obtain ⟨ad, A130, H⟩ := H
   replace H : (some ad) = some r := H
   have A13 := Aside0.mk A130
   clear A130
   obtain rfl := Option.some.inj H
   go_enter Try.func38, Try.ntmps38
   try go_wp2_with (first | ((with_reducible refine gate_callee (f := 48) rfl ?_); refine goesL_ (some 10) rfl rfl Try.func48 (by kernel_rfl) rfl #[.int .u64 (IntKind.u64.wrap (a0))] rfl (by (try simp only [List.map_toArray, List.map_cons, List.map_nil]); first | done | rfl | (simp only [List.length_drop, List.length_take]; rfl)) ?_; (with_reducible refine (bits_Len.calls (IntKind.u64.wrap (a0)) aa _ A8.out).mono ?_); rintro e aC ⟨rfl, hb⟩; refine ⟨_, rfl, ?_⟩; have ae := Aside0.mk (below_step (by exact lB HB.out) hb); clear HB; have HB := ae; clear ae; (try clear hb); (try clear av); (try clear hk); (try clear hi)))
   have ae := Aside0.mk (below_drew1 HB.out)
   clear HB
   have HB := ae
   clear ae
   refine start_ (n := 11) (S := fun w' => True) (ds := []) #[false, false, false, false, false, false, false, false, false, false, false] (by kernel_rfl) rfl rfl trivial (fun hHeld => ?_); refine with_tabW kern_search.tab4 kern_search.bits4 (fun HT_ HW_ => ?_)
   generalize aC.drew = aG at HB hHeld ⊢
   refine pure_ (i := 0) (N := some 12) (v := ?_) (a' := ?_) #[true, false, false, false, false, false, false, false, false, false, false] rfl rfl (any_of HT_.out (by kernel_rfl)) (fun _ _ _ h => h) (Or.inl ⟨by rfl, ?_⟩) ?_ ?_
   rotate_left
   ·intro w'
    go_simp
    with_reducible rfl
   rotate_left
   ·exact pA
   refine pure_ (i := 1) (N := some 13) (v := ?_) (a' := ?_) #[true, true, false, false, false, false, false, false, false, false, false] rfl rfl (any_of HT_.out (by kernel_rfl)) (fun _ _ _ h => h) (Or.inl ⟨by rfl, ?_⟩) ?_ ?_
   rotate_left
   ·intro w'
    go_simp
    with_reducible rfl
   rotate_left
   ·exact pA
   refine pure_ (i := 2) (N := some 14) (v := ?_) (a' := ?_) #[true, true, true, false, false, false, false, false, false, false, false] rfl rfl (any_of HT_.out (by kernel_rfl)) (fun _ _ _ h => h) (Or.inl ⟨by rfl, ?_⟩) ?_ ?_
   rotate_left
   ·intro w'
    go_simp
    with_reducible rfl
   rotate_left
   ·exact pA
   refine pure_ (i := 3) (N := some 15) (v := ?_) (a' := ?_) #[true, true, true, true, false, false, false, false, false, false, false] rfl rfl (any_of HT_.out (by kernel_rfl)) (fun _ _ _ h => h) (Or.inl ⟨by rfl, ?_⟩) ?_ ?_
   rotate_left
   ·intro w'
    go_simp
    with_reducible rfl
   rotate_left
   ·exact pA
   refine pure_ (i := 4) (N := some 16) (v := ?_) (a' := ?_) #[true, true, true, true, true, false, false, false, false, false, false] rfl rfl (any_of HT_.out (by kernel_rfl)) (fun _ _ _ h => h) (Or.inl ⟨by rfl, ?_⟩) ?_ ?_
   rotate_left
   ·intro w'
    go_simp
    with_reducible rfl
   rotate_left
   ·exact pA
   refine pure_ (i := 5) (N := some 17) (v := ?_) (a' := ?_) #[true, true, true, true, true, true, false, false, false, false, false] rfl rfl (any_of HT_.out (by kernel_rfl)) (fun _ _ _ h => h) (Or.inl ⟨by rfl, ?_⟩) ?_ ?_
   rotate_left
   ·intro w'
    go_simp
    with_reducible rfl
   rotate_left
   ·exact pA
   refine pure_ (i := 6) (N := some 18) (v := ?_) (a' := ?_) #[true, true, true, true, true, true, true, false, false, false, false] rfl rfl (any_of HT_.out (by kernel_rfl)) (fun _ _ _ h => h) (Or.inl ⟨by rfl, ?_⟩) ?_ ?_
   rotate_left
   ·intro w'
    go_simp
    with_reducible rfl
   rotate_left
   ·exact pA
   refine pure_ (i := 7) (N := some 19) (v := ?_) (a' := ?_) #[true, true, true, true, true, true, true, true, false, false, false] rfl rfl (any_of HT_.out (by kernel_rfl)) (fun _ _ _ h => h) (Or.inl ⟨by rfl, ?_⟩) ?_ ?_
   rotate_left
   ·intro w'
    go_simp
    with_reducible rfl
   rotate_left
   ·exact pA
   refine one_ (i := 8) (N := some 20) #[true, true, true, true, true, true, true, true, true, false, false] rfl rfl (one_of HT_.out (by kernel_rfl)) (by decide) (fun K hK => ?_)
   refine Kd.R_lit_step (Kd.int .i64) _ 3 ?hg (N := 20) ?hd (xs := ([ab, ac, wrap64 ((wrap64 (6 * a0)) - (ab))] : List Int)) (inner := [.int .i64 ab, .int .i64 ac, .int .i64 (wrap64 ((wrap64 (6 * a0)) - (ab)))]) (ok := fun _ => True) (okp := fun _ => True) ?hr ?hp (fun _ hk => hk) trivial (Below.refl _ _) (Nat.le_refl _) (by simp) ?_; (case hd => rfl); (case hg => rfl); (case hr => first | (go_simp; done) | (go_simp; rfl)); (case hp => exact (Reps.one (show Kd.M (Kd.int .i64) _ _ _ ab [.int .i64 ab] from rfl) (Reps.one (show Kd.M (Kd.int .i64) _ _ _ ac [.int .i64 ac] from rfl) (Reps.one (show Kd.M (Kd.int .i64) _ _ _ (wrap64 ((wrap64 (6 * a0)) - (ab))) [.int .i64 (wrap64 ((wrap64 (6 * a0)) - (ab)))] from rfl) (Reps.none _ _)))))
   intro v130 aH an hb hg_ hnew_
   clear hg_ hnew_
   (first | rw [← Ny129.out] at an | (simp only [Int.reduceToNat] at an; rw [← Ny129.out] at an))
   have ae := Aside0.mk (Kd.R_lower an (below_size (by exact lB HB.out)))
   have ag := Aside0.mk (below_step (by exact lB HB.out) hb)
   clear HB
   have aj := ae
   have HB := ag
   clear ae ag
   clear hb an
   obtain ⟨ay, az, eo18⟩ := Kd.R_slice aj.out
   (first | subst eo18 | (injection eo18 with f1_ f2_ f3_; have f4_ := f1_.symm; have f5_ := f3_.symm; clear f1_ f2_ f3_; subst f4_; subst f5_))
   refine hK.out _ _ trivial (fun hHeld => ?_)
   clear hK K
   refine norm_ (a' := ?_) ?_ ?_
   rotate_left
   ·show Act.put _ (some 20) _ = _
    exact pA
   refine one_ (i := 9) (N := some 21) #[true, true, true, true, true, true, true, true, true, true, false] rfl rfl (one_of HT_.out (by kernel_rfl)) (by decide) (fun K hK => ?_)
   refine goes_ Try.func21 (by kernel_rfl) rfl #[.slice ay aq.length az] (by rfl) rfl rfl (by (try simp only [List.map_toArray, List.map_cons, List.map_nil]); first | done | rfl | (simp only [List.length_drop, List.length_take]; rfl)) ?_
   with_reducible refine (kern_p16.calls k _ _ aq ad _ ?side1 ?side2 A13.out).mono ?_
   (case side1 => repeat (first | exact (Kd.R_reads' aj.out).2.2 | (with_reducible refine Kd.C_alloc ?_ _) | (with_reducible refine Kd.C_drewN ?_ _) | (with_reducible refine Kd.C_drew ?_)))
   (case side2 => exact (Kd.R_reads' aj.out).2.1)
   rintro e aI ⟨rfl, hb⟩
   refine ⟨_, rfl, ?_⟩
   have ae := Aside0.mk (Kd.R_below (by (with_reducible repeat (first | apply Kd.R_alloc | apply Kd.R_drewN | apply Kd.R_drew)); exact aj.out) hb)
   have ag := Aside0.mk (below_step (by exact lB HB.out) hb)
   clear aj
   clear HB
   have aj := ae
   have HB := ag
   clear ae ag
   (try clear hb)
   (try clear av)
   (try clear hk)
   (try clear hi)
   refine hK.out _ _ trivial (fun hHeld => ?_)
   clear hK K
   refine norm_ (a' := ?_) ?_ ?_
   rotate_left
   ·show Act.put _ (some 21) _ = _
    exact pA
   refine pure_ (i := 10) (N := some 2) (v := ?_) (a' := ?_) #[true, true, true, true, true, true, true, true, true, true, true] rfl rfl (any_of HT_.out (by kernel_rfl)) (fun _ _ _ h => h) (Or.inl ⟨by rfl, ?_⟩) ?_ ?_
   rotate_left
   ·intro w'
    go_simp
    with_reducible rfl
   rotate_left
   ·exact pA
   refine done_ (done_of HT_.out (by kernel_rfl)) ?_
   try go_wp2
   go_ret
   exact ⟨by first | rfl | (simp [errW_none, errW_some] <;> rfl) | (simp only [← am, ← ai]; first | rfl | (simp [errW_none, errW_some] <;> rfl)) | (simp [*, errW_none, errW_some] <;> rfl), by exact lB HB.out⟩
  ·rw [if_neg c10] at H
   exact absurd H (by simp)

end Go.Proofs.Ythnojbbfmcapnaa.Pr
