-- printed by a program of this session's (wip/mp.sh), out of the translation; the texts of its folder 'given' are typed by hand
-- shortened (wip/short.py)
import Derived.Test.YthnojbbfmcapnaaPr0
import Derived.Test.YthnojbbfmcapnaaPr3
namespace Go.Proofs.Ythnojbbfmcapnaa.Pr
open Go.RowKit Go.Proofs.YthnojbbfmcapnaaW.PrintWords Go.Proofs.YthnojbbfmcapnaaW.PrintLast Go.Proofs.YthnojbbfmcapnaaW.PrintMore
attribute [local go_sem] max2_int min2_int max_two min_two max_three min_three max_four min_four   -- for this text's walks alone
set_option linter.unusedVariables false
set_option linter.unusedSimpArgs false

/-! ### kern_compare: function 41 -/
def kern_compare.f (k : Nat) (ae : Int) (ac : Int) (al : Int) (ak : Int) (ai : Int) (ar : Int) : Option (Int) := (cmp_Compare_int.f ae ak).bind fun ag => ((cmp_Compare_int.f ac ai).bind fun af => ((cmp_Or_int.f k (([ag, af] : List Int))).bind fun ah => (some ah)))
theorem kern_compare.mono : ∀ a0 a1 a2 a3 a4 a5 k, LeO (kern_compare.f k a0 a1 a2 a3 a4 a5) (kern_compare.f (k + 1) a0 a1 a2 a3 a4 a5) := by
 intro a0 a1 a2 a3 a4 a5 k
 unfold kern_compare.f
 repeat' first
   | (with_reducible exact cmp_Or_int.mono _ _)
   | (with_reducible exact LeO.refl _)
   | (with_reducible exact LeO.none _)
   | (with_reducible refine LeO.ite ?_ ?_)
   | (with_reducible refine LeO.bind ?_ (fun _ => ?_))
   | exact cmp_Or_int.mono _ _
   | exact LeO.none _
   | refine LeO.ite ?_ ?_
   | refine LeO.bind ?_ (fun _ => ?_)
def kern_compare.T1 : Bool × List (List Nat × List Nat) := (true, [([], []), ([0], [0]), ([], []), ([2], [2]), ([1, 3], [1, 3]), ([], []), ([5], [5]), ([], []), ([7], [7]), ([6, 8, 4], [6, 8]), ([4, 9], [4, 9]), ([10, 9], [10]), ([11, 11, 0, 1, 2, 3, 4, 5, 6, 7, 8, 9, 10, 11], [11])])
def kern_compare.B1 : List Nat := [0, 1, 0, 4, 15, 0, 32, 0, 128, 511, 1023, 2047, 4095]
theorem kern_compare.tab1 : rtab .any (opsOf Try.f41 1) = kern_compare.T1 := by kernel_rfl
theorem kern_compare.bits1 : waitsOk kern_compare.T1.2 kern_compare.B1 = true := by kernel_rfl
set_option maxHeartbeats 8000000 in
set_option maxRecDepth 100000 in
theorem kern_compare.calls (k : Nat) (ae : Int) (ac : Int) (al : Int) (ak : Int) (ai : Int) (ar : Int) (r : Int) (w : World) (h : kern_compare.f k ae ac al ak ai ar = some r) :
  Calls Try.prog 41 #[.agg #[.int .i64 ae, .int .i64 ac, .int .i64 al], .agg #[.int .i64 ak, .int .i64 ai, .int .i64 ar]] w fun e w' => e = .returned (.int .i64 r) ∧ Below w.heap.size w w' := by
 have aI := Try.underlying41
 have HB := Aside0.mk (Below.refl w.heap.size w)
 have H : ((cmp_Compare_int.f ae ak).bind fun ag => ((cmp_Compare_int.f ac ai).bind fun af => ((cmp_Or_int.f k (([ag, af] : List Int))).bind fun ah => (some ah)))) = some r := h
 clear h
 replace H := Option.bind_eq_some_iff.mp H
 obtain ⟨ag, A30, H⟩ := H
 replace H : ((cmp_Compare_int.f ac ai).bind fun af => ((cmp_Or_int.f k (([ag, af] : List Int))).bind fun ah => (some ah))) = some r := H
 have A3 := Aside0.mk A30
 clear A30
 replace H := Option.bind_eq_some_iff.mp H
 obtain ⟨af, A40, H⟩ := H
 replace H : ((cmp_Or_int.f k (([ag, af] : List Int))).bind fun ah => (some ah)) = some r := H
 have A4 := Aside0.mk A40
 clear A40
 obtain ⟨ay, aq⟩ : ∃ y_ : List Int, y_ = (([ag, af] : List Int)) := ⟨_, rfl⟩
 replace H : ((cmp_Or_int.f k ay).bind fun ah => (some ah)) = some r := by first | (rw [aq]; with_reducible exact H) | (have H2_ := (Option.bind_some _ _).symm.trans H; rw [aq]; with_reducible exact H2_) | (have H2_ := (Option.bind_some _ _).symm.trans H; with_reducible exact H2_) | with_reducible exact H | (rw [aq]; exact H) | exact H
 have Ny108 := Aside0.mk aq
 clear aq
 replace H := Option.bind_eq_some_iff.mp H
 obtain ⟨ah, A50, H⟩ := H
 replace H : (some ah) = some r := H
 have A5 := Aside0.mk A50
 clear A50
 obtain rfl := Option.some.inj H
 go_enter Try.func41, Try.ntmps41
 try go_wp2_with (first | ((with_reducible refine gate_dst (N := 2) rfl ?_); refine box_event ?hg (N := 2) ?hd (cs := #[.int .i64 ae, .int .i64 ac, .int .i64 al]) (t := 41) ?hr ?_; (case hd => rfl); (case hg => rfl); (case hr => first | (go_simp; done) | (go_simp; rfl)); intro ad hg w6 hbox hb; have am := Aside0.mk (below_step (by exact lB HB.out) hb); have an := Aside0.mk (hbox); have ao := Aside0.mk ((by rw [hg]; exact (below_size (by exact lB HB.out)) : w.heap.size ≤ ad)); have au := Aside0.mk ((by rw [hg]; exact (below_size (by exact lB HB.out)) : w.heap.size ≤ ad)); clear HB; have HB := am; have aa := an; have aG := ao; have ap := au; clear am an ao au; clear hb hbox hg) | ((with_reducible refine gate_dst (N := 3) rfl ?_); refine box_event ?hg (N := 3) ?hd (cs := #[.int .i64 ak, .int .i64 ai, .int .i64 ar]) (t := 41) ?hr ?_; (case hd => rfl); (case hg => rfl); (case hr => first | (go_simp; done) | (go_simp; rfl)); intro aj hg w7 hbox hb; have am := Aside0.mk (blk_below (g := ad) (o := .cells #[.int .i64 ae, .int .i64 ac, .int .i64 al] 41 (0, 0)) (by refine kB ?_; exact aa.out) hb); have an := Aside0.mk (below_step (by exact lB HB.out) hb); have ao := Aside0.mk (hbox); have au := Aside0.mk ((by rw [hg]; exact (below_size (by exact lB HB.out)) : w.heap.size ≤ aj)); have az := Aside0.mk ((by rw [hg]; exact (below_size (by exact lB HB.out)) : w.heap.size ≤ aj)); have aA := Aside0.mk ((by rw [hg]; exact Nat.ne_of_lt (blk_lt (g := ad) (o := .cells #[.int .i64 ae, .int .i64 ac, .int .i64 al] 41 (0, 0)) (by refine kB ?_; exact aa.out)) : ad ≠ aj)); have aB := Aside0.mk ((by rw [hg]; exact Nat.ne_of_gt (blk_lt (g := ad) (o := .cells #[.int .i64 ae, .int .i64 ac, .int .i64 al] 41 (0, 0)) (by refine kB ?_; exact aa.out)) : aj ≠ ad)); clear aa; clear HB; have aa := am; have HB := an; have ab := ao; have aH := au; have aw := az; have aC := aA; have aD := aB; clear am an ao au az aA aB; clear hb hbox hg))
 have am := Aside0.mk (blk_drew aa.out)
 have an := Aside0.mk (blk_drew ab.out)
 have ao := Aside0.mk (below_drew1 HB.out)
 clear aa
 clear ab
 clear HB
 have aa := am
 have ab := an
 have HB := ao
 clear am an ao
 refine start_ (n := 13) (S := fun w' => w'.cell? ⟨ad, 0, none⟩ = some (.int .i64 ae) ∧ w'.cell? ⟨ad, 1, none⟩ = some (.int .i64 ac) ∧ w'.cell? ⟨ad, 2, none⟩ = some (.int .i64 al) ∧ w'.cell? ⟨aj, 0, none⟩ = some (.int .i64 ak) ∧ w'.cell? ⟨aj, 1, none⟩ = some (.int .i64 ai) ∧ w'.cell? ⟨aj, 2, none⟩ = some (.int .i64 ar)) (ds := []) #[false, false, false, false, false, false, false, false, false, false, false, false, false] (by kernel_rfl) rfl rfl ⟨(blk_cell aa.out 0).trans rfl, (blk_cell aa.out 1).trans rfl, (blk_cell aa.out 2).trans rfl, (blk_cell ab.out 0).trans rfl, (blk_cell ab.out 1).trans rfl, (blk_cell ab.out 2).trans rfl⟩ (fun hHeld => ?_); refine with_tabW kern_compare.tab1 kern_compare.bits1 (fun HT_ HW_ => ?_)
 generalize w7.drew = w8 at aa ab HB hHeld ⊢
 refine pure_ (i := 0) (N := some 5) (v := ?_) (a' := ?_) #[true, false, false, false, false, false, false, false, false, false, false, false, false] rfl rfl (any_of HT_.out (by kernel_rfl)) (fun _ _ _ h => h) (Or.inl ⟨by rfl, ?_⟩) ?_ ?_
 rotate_left
 ·intro w'
  go_simp
  with_reducible rfl
 rotate_left
 ·exact pA
 refine pure_ (i := 2) (N := some 7) (v := ?_) (a' := ?_) #[true, false, true, false, false, false, false, false, false, false, false, false, false] rfl rfl (any_of HT_.out (by kernel_rfl)) (fun _ _ _ h => h) (Or.inl ⟨by rfl, ?_⟩) ?_ ?_
 rotate_left
 ·intro w'
  go_simp
  with_reducible rfl
 rotate_left
 ·exact pA
 refine pure_ (i := 5) (N := some 10) (v := ?_) (a' := ?_) #[true, false, true, false, false, true, false, false, false, false, false, false, false] rfl rfl (any_of HT_.out (by kernel_rfl)) (fun _ _ _ h => h) (Or.inl ⟨by rfl, ?_⟩) ?_ ?_
 rotate_left
 ·intro w'
  go_simp
  with_reducible rfl
 rotate_left
 ·exact pA
 refine pure_ (i := 7) (N := some 12) (v := ?_) (a' := ?_) #[true, false, true, false, false, true, false, true, false, false, false, false, false] rfl rfl (any_of HT_.out (by kernel_rfl)) (fun _ _ _ h => h) (Or.inl ⟨by rfl, ?_⟩) ?_ ?_
 rotate_left
 ·intro w'
  go_simp
  with_reducible rfl
 rotate_left
 ·exact pA
 refine take_ (i := 1) (N := some 6) (v := ?_) (a' := ?_) #[true, true, true, false, false, true, false, true, false, false, false, false, false] rfl rfl (take_ofW HT_.out HW_.out (by kernel_rfl)) (fun _ _ _ h => h) (Or.inl ⟨by rfl, ?_⟩) hHeld ?_ ?_
 rotate_left
 ·rintro w' ⟨s0, s1, s2, s3, s4, s5⟩
  go_simp
  with_reducible rfl
 rotate_left
 ·exact pA
 refine take_ (i := 3) (N := some 8) (v := ?_) (a' := ?_) #[true, true, true, true, false, true, false, true, false, false, false, false, false] rfl rfl (take_ofW HT_.out HW_.out (by kernel_rfl)) (fun _ _ _ h => h) (Or.inl ⟨by rfl, ?_⟩) hHeld ?_ ?_
 rotate_left
 ·rintro w' ⟨s0, s1, s2, s3, s4, s5⟩
  go_simp
  with_reducible rfl
 rotate_left
 ·exact pA
 refine take_ (i := 6) (N := some 11) (v := ?_) (a' := ?_) #[true, true, true, true, false, true, true, true, false, false, false, false, false] rfl rfl (take_ofW HT_.out HW_.out (by kernel_rfl)) (fun _ _ _ h => h) (Or.inl ⟨by rfl, ?_⟩) hHeld ?_ ?_
 rotate_left
 ·rintro w' ⟨s0, s1, s2, s3, s4, s5⟩
  go_simp
  with_reducible rfl
 rotate_left
 ·exact pA
 refine take_ (i := 8) (N := some 13) (v := ?_) (a' := ?_) #[true, true, true, true, false, true, true, true, true, false, false, false, false] rfl rfl (take_ofW HT_.out HW_.out (by kernel_rfl)) (fun _ _ _ h => h) (Or.inl ⟨by rfl, ?_⟩) hHeld ?_ ?_
 rotate_left
 ·rintro w' ⟨s0, s1, s2, s3, s4, s5⟩
  go_simp
  with_reducible rfl
 rotate_left
 ·exact pA
 refine one_ (i := 4) (N := some 9) #[true, true, true, true, true, true, true, true, true, false, false, false, false] rfl rfl (one_of HT_.out (by kernel_rfl)) (by decide) (fun K hK => ?_)
 refine goes_ Try.func50 (by kernel_rfl) rfl #[.int .i64 ae, .int .i64 ak] (by rfl) rfl rfl (by (try simp only [List.map_toArray, List.map_cons, List.map_nil]); first | done | rfl | (simp only [List.length_drop, List.length_take]; rfl)) ?_
 with_reducible refine (cmp_Compare_int.calls ae ak ag _ A3.out).mono ?_
 rintro e w' ⟨rfl, ⟨nd, rfl⟩⟩
 refine ⟨_, rfl, ?_⟩
 refine hK.out _ _ ⟨(blk_cell aa.out 0).trans rfl, (blk_cell aa.out 1).trans rfl, (blk_cell aa.out 2).trans rfl, (blk_cell ab.out 0).trans rfl, (blk_cell ab.out 1).trans rfl, (blk_cell ab.out 2).trans rfl⟩ (fun hHeld => ?_)
 clear hK K
 refine norm_ (a' := ?_) ?_ ?_
 rotate_left
 ·show Act.put _ (some 9) _ = _
  exact pA
 refine one_ (i := 9) (N := some 14) #[true, true, true, true, true, true, true, true, true, true, false, false, false] rfl rfl (one_of HT_.out (by kernel_rfl)) (by decide) (fun K hK => ?_)
 refine goes_ Try.func50 (by kernel_rfl) rfl #[.int .i64 ac, .int .i64 ai] (by rfl) rfl rfl (by (try simp only [List.map_toArray, List.map_cons, List.map_nil]); first | done | rfl | (simp only [List.length_drop, List.length_take]; rfl)) ?_
 with_reducible refine (cmp_Compare_int.calls ac ai af _ A4.out).mono ?_
 rintro e w' ⟨rfl, ⟨nd, rfl⟩⟩
 refine ⟨_, rfl, ?_⟩
 refine hK.out _ _ ⟨(blk_cell aa.out 0).trans rfl, (blk_cell aa.out 1).trans rfl, (blk_cell aa.out 2).trans rfl, (blk_cell ab.out 0).trans rfl, (blk_cell ab.out 1).trans rfl, (blk_cell ab.out 2).trans rfl⟩ (fun hHeld => ?_)
 clear hK K
 refine norm_ (a' := ?_) ?_ ?_
 rotate_left
 ·show Act.put _ (some 14) _ = _
  exact pA
 refine one_ (i := 10) (N := some 15) #[true, true, true, true, true, true, true, true, true, true, true, false, false] rfl rfl (one_of HT_.out (by kernel_rfl)) (by decide) (fun K hK => ?_)
 refine Kd.R_lit_step (Kd.int .i64) _ 3 ?hg (N := 15) ?hd (xs := ([ag, af] : List Int)) (inner := [.int .i64 ag, .int .i64 af]) (ok := fun _ => True) (okp := fun _ => True) ?hr ?hp (fun _ hk => hk) trivial (Below.refl _ _) (Nat.le_refl _) (by simp) ?_; (case hd => rfl); (case hg => rfl); (case hr => first | (go_simp; done) | (go_simp; rfl)); (case hp => exact (Reps.one (show Kd.M (Kd.int .i64) _ _ _ ag [.int .i64 ag] from rfl) (Reps.one (show Kd.M (Kd.int .i64) _ _ _ af [.int .i64 af] from rfl) (Reps.none _ _))))
 intro v109 w9 av hb hg_ hnew_
 clear hg_ hnew_
 (first | rw [← Ny108.out] at av | (simp only [Int.reduceToNat] at av; rw [← Ny108.out] at av))
 have am := Aside0.mk (Kd.R_lower av (below_size (by exact lB HB.out)))
 have an := Aside0.mk (blk_below (g := ad) (o := .cells #[.int .i64 ae, .int .i64 ac, .int .i64 al] 41 (0, 0)) (by refine kB ?_; exact aa.out) hb)
 have ao := Aside0.mk (blk_below (g := aj) (o := .cells #[.int .i64 ak, .int .i64 ai, .int .i64 ar] 41 (0, 0)) (by refine kB ?_; exact ab.out) hb)
 have au := Aside0.mk (below_step (by exact lB HB.out) hb)
 clear aa
 clear ab
 clear HB
 have ax := am
 have aa := an
 have ab := ao
 have HB := au
 clear am an ao au
 clear hb av
 obtain ⟨aE, aF, eo11⟩ := Kd.R_slice ax.out
 (first | subst eo11 | (injection eo11 with f1_ f2_ f3_; have f4_ := f1_.symm; have f5_ := f3_.symm; clear f1_ f2_ f3_; subst f4_; subst f5_))
 refine hK.out _ _ ⟨(blk_cell aa.out 0).trans rfl, (blk_cell aa.out 1).trans rfl, (blk_cell aa.out 2).trans rfl, (blk_cell ab.out 0).trans rfl, (blk_cell ab.out 1).trans rfl, (blk_cell ab.out 2).trans rfl⟩ (fun hHeld => ?_)
 clear hK K
 refine norm_ (a' := ?_) ?_ ?_
 rotate_left
 ·show Act.put _ (some 15) _ = _
  exact pA
 refine one_ (i := 11) (N := some 16) #[true, true, true, true, true, true, true, true, true, true, true, true, false] rfl rfl (one_of HT_.out (by kernel_rfl)) (by decide) (fun K hK => ?_)
 refine goes_ Try.func49 (by kernel_rfl) rfl #[.slice aE ay.length aF] (by rfl) rfl rfl (by (try simp only [List.map_toArray, List.map_cons, List.map_nil]); first | done | rfl | (simp only [List.length_drop, List.length_take]; rfl)) ?_
 with_reducible refine (cmp_Or_int.calls k _ _ ay ah _ ?side1 ?side2 A5.out).mono ?_
 (case side1 => repeat (first | exact (Kd.R_reads' ax.out).2.2 | (with_reducible refine Kd.C_alloc ?_ _) | (with_reducible refine Kd.C_drewN ?_ _) | (with_reducible refine Kd.C_drew ?_)))
 (case side2 => exact (Kd.R_reads' ax.out).2.1)
 rintro e w' ⟨rfl, ⟨nd, rfl⟩⟩
 refine ⟨_, rfl, ?_⟩
 refine hK.out _ _ ⟨(blk_cell aa.out 0).trans rfl, (blk_cell aa.out 1).trans rfl, (blk_cell aa.out 2).trans rfl, (blk_cell ab.out 0).trans rfl, (blk_cell ab.out 1).trans rfl, (blk_cell ab.out 2).trans rfl⟩ (fun hHeld => ?_)
 clear hK K
 refine norm_ (a' := ?_) ?_ ?_
 rotate_left
 ·show Act.put _ (some 16) _ = _
  exact pA
 refine pure_ (i := 12) (N := some 4) (v := ?_) (a' := ?_) #[true, true, true, true, true, true, true, true, true, true, true, true, true] rfl rfl (any_of HT_.out (by kernel_rfl)) (fun _ _ _ h => h) (Or.inl ⟨by rfl, ?_⟩) ?_ ?_
 rotate_left
 ·intro w'
  go_simp
  with_reducible rfl
 rotate_left
 ·exact pA
 refine done_ (done_of HT_.out (by kernel_rfl)) ?_
 try go_wp2
 go_ret
 exact ⟨by first | rfl | (simp [errW_none, errW_some] <;> rfl) | (simp [*, errW_none, errW_some] <;> rfl), by exact lB HB.out⟩

end Go.Proofs.Ythnojbbfmcapnaa.Pr
