-- printed by a program of this session's (wip/mp.sh), out of the translation; the texts of its folder 'given' are typed by hand
-- shortened (wip/short.py)
import Derived.Test.YtjcgmjhcaaaieaaDoorPr0
import Derived.Test.YtjcgmjhcaaaieaaDoorPr21
namespace Go.Proofs.YtjcgmjhcaaaieaaDoor.Pr
open Go.RowKit Go.Proofs.YtjcgmjhcaaaieaaDoorW.PrintWords Go.Proofs.YtjcgmjhcaaaieaaDoorW.PrintLast Go.Proofs.YtjcgmjhcaaaieaaDoorW.PrintMore
attribute [local go_sem] max2_int min2_int max_two min_two max_three min_three max_four min_four   -- for this text's walks alone
attribute [local go_sem high] eqA32
set_option linter.unusedVariables false
set_option linter.unusedSimpArgs false

/-! ### wide_Cmp: function 44 -/
def wide_Cmp.f (k : Nat) (ad : Int) (ac : Int) (aj : Int) (ai : Int) : Option (Int) := (cmp_Compare_uint64.f ad aj).bind fun ag => ((cmp_Compare_uint64.f ac ai).bind fun ae => ((cmp_Or_int.f k (([ag, ae] : List Int))).bind fun ah => (some ah)))
theorem wide_Cmp.mono : ∀ a0 a1 a2 a3 k, LeO (wide_Cmp.f k a0 a1 a2 a3) (wide_Cmp.f (k + 1) a0 a1 a2 a3) := by
 intro a0 a1 a2 a3 k
 unfold wide_Cmp.f
 repeat' first
   | (with_reducible exact cmp_Or_int.mono _ _)
   | (with_reducible exact LeO.refl _)
   | (with_reducible exact LeO.none _)
   | (with_reducible refine LeO.ite ?_ ?_)
   | (with_reducible refine LeO.bind ?_ (fun _ => ?_))
   | exact cmp_Or_int.mono _ _
   | exact LeO.none _
   | refine LeO.ite ?_ ?_
   | refine LeO.bind ?_ (fun _ => ?_)
def wide_Cmp.T1 : Bool × List (List Nat × List Nat) := (true, [([], []), ([0], [0]), ([], []), ([2], [2]), ([1, 3], [1, 3]), ([], []), ([5], [5]), ([], []), ([7], [7]), ([6, 8, 4], [6, 8]), ([4, 9], [4, 9]), ([10, 9], [10]), ([11, 11, 0, 1, 2, 3, 4, 5, 6, 7, 8, 9, 10, 11], [11])])
def wide_Cmp.B1 : List Nat := [0, 1, 0, 4, 15, 0, 32, 0, 128, 511, 1023, 2047, 4095]
theorem wide_Cmp.tab1 : rtab .any (opsOf Tryd.f44 1) = wide_Cmp.T1 := by kernel_rfl
theorem wide_Cmp.bits1 : waitsOk wide_Cmp.T1.2 wide_Cmp.B1 = true := by kernel_rfl
set_option maxHeartbeats 8000000 in
set_option maxRecDepth 100000 in
theorem wide_Cmp.calls (k : Nat) (ad : Int) (ac : Int) (aj : Int) (ai : Int) (r : Int) (w : World) (h : wide_Cmp.f k ad ac aj ai = some r) :
  Calls Tryd.prog 44 #[.agg #[.int .u64 ad, .int .u64 ac], .agg #[.int .u64 aj, .int .u64 ai]] w fun e w' => e = .returned (.int .i64 r) ∧ Below w.heap.size w w' := by
 have aG := Tryd.underlying77
 have HB := A_.mk (Below.refl w.heap.size w)
 have H : ((cmp_Compare_uint64.f ad aj).bind fun ag => ((cmp_Compare_uint64.f ac ai).bind fun ae => ((cmp_Or_int.f k (([ag, ae] : List Int))).bind fun ah => (some ah)))) = some r := h
 clear h
 replace H := Option.bind_eq_some_iff.mp H
 obtain ⟨ag, A30, H⟩ := H
 replace H : ((cmp_Compare_uint64.f ac ai).bind fun ae => ((cmp_Or_int.f k (([ag, ae] : List Int))).bind fun ah => (some ah))) = some r := H
 have A3 := A_.mk A30
 clear A30
 replace H := Option.bind_eq_some_iff.mp H
 obtain ⟨ae, A40, H⟩ := H
 replace H : ((cmp_Or_int.f k (([ag, ae] : List Int))).bind fun ah => (some ah)) = some r := H
 have A4 := A_.mk A40
 clear A40
 obtain ⟨aw, ap⟩ : ∃ y_ : List Int, y_ = (([ag, ae] : List Int)) := ⟨_, rfl⟩
 replace H : ((cmp_Or_int.f k aw).bind fun ah => (some ah)) = some r := by first | (rw [ap]; with_reducible exact H) | (have H2_ := (Option.bind_some _ _).symm.trans H; rw [ap]; with_reducible exact H2_) | (have H2_ := (Option.bind_some _ _).symm.trans H; with_reducible exact H2_) | with_reducible exact H | (rw [ap]; exact H) | exact H
 have Ny207 := A_.mk ap
 clear ap
 replace H := Option.bind_eq_some_iff.mp H
 obtain ⟨ah, A50, H⟩ := H
 replace H : (some ah) = some r := H
 have A5 := A_.mk A50
 clear A50
 obtain rfl := Option.some.inj H
 go_enter Tryd.func44, Tryd.ntmps44
 try go_wp2_with (first | ((with_reducible refine O_ (N := 2) rfl ?_); refine N_ ?hg (N := 2) ?hd (cs := #[.int .u64 ad, .int .u64 ac]) (t := 77) ?hr ?_; (case hd => rfl); (case hg => rfl); (case hr => first | (go_simp; done) | (go_simp; rfl)); intro af hg w6 hbox hb; have al := A_.mk (E_ (by exact lB HB.out) hb); have am := A_.mk (hbox); have an := A_.mk ((by rw [hg]; exact (G_ (by exact lB HB.out)) : w.heap.size ≤ af)); have aq := A_.mk ((by rw [hg]; exact (G_ (by exact lB HB.out)) : w.heap.size ≤ af)); clear HB; have HB := al; have aa := am; have aE := an; have ao := aq; clear al am an aq; clear hb hbox hg) | ((with_reducible refine O_ (N := 3) rfl ?_); refine N_ ?hg (N := 3) ?hd (cs := #[.int .u64 aj, .int .u64 ai]) (t := 77) ?hr ?_; (case hd => rfl); (case hg => rfl); (case hr => first | (go_simp; done) | (go_simp; rfl)); intro ak hg w7 hbox hb; have al := A_.mk (F_ (g := af) (o := .cells #[.int .u64 ad, .int .u64 ac] 77 (0, 0)) (by refine kB ?_; exact aa.out) hb); have am := A_.mk (E_ (by exact lB HB.out) hb); have an := A_.mk (hbox); have aq := A_.mk ((by rw [hg]; exact (G_ (by exact lB HB.out)) : w.heap.size ≤ ak)); have ax := A_.mk ((by rw [hg]; exact (G_ (by exact lB HB.out)) : w.heap.size ≤ ak)); have ay := A_.mk ((by rw [hg]; exact Nat.ne_of_lt (M_ (g := af) (o := .cells #[.int .u64 ad, .int .u64 ac] 77 (0, 0)) (by refine kB ?_; exact aa.out)) : af ≠ ak)); have az := A_.mk ((by rw [hg]; exact Nat.ne_of_gt (M_ (g := af) (o := .cells #[.int .u64 ad, .int .u64 ac] 77 (0, 0)) (by refine kB ?_; exact aa.out)) : ak ≠ af)); clear aa; clear HB; have aa := al; have HB := am; have ab := an; have aF := aq; have au := ax; have aA := ay; have aB := az; clear al am an aq ax ay az; clear hb hbox hg))
 have al := A_.mk (Y_ aa.out)
 have am := A_.mk (Y_ ab.out)
 have an := A_.mk (T_ HB.out)
 clear aa
 clear ab
 clear HB
 have aa := al
 have ab := am
 have HB := an
 clear al am an
 refine start_ (n := 13) (S := fun w' => w'.cell? ⟨af, 0, none⟩ = some (.int .u64 ad) ∧ w'.cell? ⟨af, 1, none⟩ = some (.int .u64 ac) ∧ w'.cell? ⟨ak, 0, none⟩ = some (.int .u64 aj) ∧ w'.cell? ⟨ak, 1, none⟩ = some (.int .u64 ai)) (ds := []) #[false, false, false, false, false, false, false, false, false, false, false, false, false] (by kernel_rfl) rfl rfl ⟨(D_ aa.out 0).trans rfl, (D_ aa.out 1).trans rfl, (D_ ab.out 0).trans rfl, (D_ ab.out 1).trans rfl⟩ (fun hHeld => ?_); refine with_tabW wide_Cmp.tab1 wide_Cmp.bits1 (fun HT_ HW_ => ?_)
 generalize w7.drew = w8 at aa ab HB hHeld ⊢
 refine pure_ (i := 0) (N := some 5) (v := ?_) (a' := ?_) #[true, false, false, false, false, false, false, false, false, false, false, false, false] rfl rfl (A1_ HT_.out (by kernel_rfl)) (fun _ _ _ h => h) (Or.inl ⟨by rfl, ?_⟩) ?_ ?_
 rotate_left
 ·intro w'
  go_simp
  with_reducible rfl
 rotate_left
 ·exact pA
 refine pure_ (i := 2) (N := some 7) (v := ?_) (a' := ?_) #[true, false, true, false, false, false, false, false, false, false, false, false, false] rfl rfl (A1_ HT_.out (by kernel_rfl)) (fun _ _ _ h => h) (Or.inl ⟨by rfl, ?_⟩) ?_ ?_
 rotate_left
 ·intro w'
  go_simp
  with_reducible rfl
 rotate_left
 ·exact pA
 refine pure_ (i := 5) (N := some 10) (v := ?_) (a' := ?_) #[true, false, true, false, false, true, false, false, false, false, false, false, false] rfl rfl (A1_ HT_.out (by kernel_rfl)) (fun _ _ _ h => h) (Or.inl ⟨by rfl, ?_⟩) ?_ ?_
 rotate_left
 ·intro w'
  go_simp
  with_reducible rfl
 rotate_left
 ·exact pA
 refine pure_ (i := 7) (N := some 12) (v := ?_) (a' := ?_) #[true, false, true, false, false, true, false, true, false, false, false, false, false] rfl rfl (A1_ HT_.out (by kernel_rfl)) (fun _ _ _ h => h) (Or.inl ⟨by rfl, ?_⟩) ?_ ?_
 rotate_left
 ·intro w'
  go_simp
  with_reducible rfl
 rotate_left
 ·exact pA
 refine take_ (i := 1) (N := some 6) (v := ?_) (a' := ?_) #[true, true, true, false, false, true, false, true, false, false, false, false, false] rfl rfl (B1_ HT_.out HW_.out (by kernel_rfl)) (fun _ _ _ h => h) (Or.inl ⟨by rfl, ?_⟩) hHeld ?_ ?_
 rotate_left
 ·rintro w' ⟨s0, s1, s2, s3⟩
  go_simp
  with_reducible rfl
 rotate_left
 ·exact pA
 refine take_ (i := 3) (N := some 8) (v := ?_) (a' := ?_) #[true, true, true, true, false, true, false, true, false, false, false, false, false] rfl rfl (B1_ HT_.out HW_.out (by kernel_rfl)) (fun _ _ _ h => h) (Or.inl ⟨by rfl, ?_⟩) hHeld ?_ ?_
 rotate_left
 ·rintro w' ⟨s0, s1, s2, s3⟩
  go_simp
  with_reducible rfl
 rotate_left
 ·exact pA
 refine take_ (i := 6) (N := some 11) (v := ?_) (a' := ?_) #[true, true, true, true, false, true, true, true, false, false, false, false, false] rfl rfl (B1_ HT_.out HW_.out (by kernel_rfl)) (fun _ _ _ h => h) (Or.inl ⟨by rfl, ?_⟩) hHeld ?_ ?_
 rotate_left
 ·rintro w' ⟨s0, s1, s2, s3⟩
  go_simp
  with_reducible rfl
 rotate_left
 ·exact pA
 refine take_ (i := 8) (N := some 13) (v := ?_) (a' := ?_) #[true, true, true, true, false, true, true, true, true, false, false, false, false] rfl rfl (B1_ HT_.out HW_.out (by kernel_rfl)) (fun _ _ _ h => h) (Or.inl ⟨by rfl, ?_⟩) hHeld ?_ ?_
 rotate_left
 ·rintro w' ⟨s0, s1, s2, s3⟩
  go_simp
  with_reducible rfl
 rotate_left
 ·exact pA
 refine one_ (i := 4) (N := some 9) #[true, true, true, true, true, true, true, true, true, false, false, false, false] rfl rfl (one_of HT_.out (by kernel_rfl)) (by decide) (fun K hK => ?_)
 refine goes_ Tryd.func52 (by kernel_rfl) rfl #[.int .u64 ad, .int .u64 aj] (by rfl) rfl rfl (by (try simp only [List.map_toArray, List.map_cons, List.map_nil]); first | done | rfl | (simp only [List.length_drop, List.length_take]; rfl)) ?_
 with_reducible refine (cmp_Compare_uint64.calls ad aj ag _ A3.out).mono ?_
 rintro e w' ⟨rfl, ⟨nd, rfl⟩⟩
 refine ⟨_, rfl, ?_⟩
 refine hK.out _ _ ⟨(D_ aa.out 0).trans rfl, (D_ aa.out 1).trans rfl, (D_ ab.out 0).trans rfl, (D_ ab.out 1).trans rfl⟩ (fun hHeld => ?_)
 clear hK K
 refine norm_ (a' := ?_) ?_ ?_
 rotate_left
 ·show Act.put _ (some 9) _ = _
  exact pA
 refine one_ (i := 9) (N := some 14) #[true, true, true, true, true, true, true, true, true, true, false, false, false] rfl rfl (one_of HT_.out (by kernel_rfl)) (by decide) (fun K hK => ?_)
 refine goes_ Tryd.func52 (by kernel_rfl) rfl #[.int .u64 ac, .int .u64 ai] (by rfl) rfl rfl (by (try simp only [List.map_toArray, List.map_cons, List.map_nil]); first | done | rfl | (simp only [List.length_drop, List.length_take]; rfl)) ?_
 with_reducible refine (cmp_Compare_uint64.calls ac ai ae _ A4.out).mono ?_
 rintro e w' ⟨rfl, ⟨nd, rfl⟩⟩
 refine ⟨_, rfl, ?_⟩
 refine hK.out _ _ ⟨(D_ aa.out 0).trans rfl, (D_ aa.out 1).trans rfl, (D_ ab.out 0).trans rfl, (D_ ab.out 1).trans rfl⟩ (fun hHeld => ?_)
 clear hK K
 refine norm_ (a' := ?_) ?_ ?_
 rotate_left
 ·show Act.put _ (some 14) _ = _
  exact pA
 refine one_ (i := 10) (N := some 15) #[true, true, true, true, true, true, true, true, true, true, true, false, false] rfl rfl (one_of HT_.out (by kernel_rfl)) (by decide) (fun K hK => ?_)
 refine Kd.R_lit_step (Kd.int .i64) _ 3 ?hg (N := 15) ?hd (xs := ([ag, ae] : List Int)) (inner := [.int .i64 ag, .int .i64 ae]) (ok := fun _ => True) (okp := fun _ => True) ?hr ?hp (fun _ hk => hk) trivial (Below.refl _ _) (Nat.le_refl _) (by simp) ?_; (case hd => rfl); (case hg => rfl); (case hr => first | (go_simp; done) | (go_simp; rfl)); (case hp => exact (Reps.one (show Kd.M (Kd.int .i64) _ _ _ ag [.int .i64 ag] from rfl) (Reps.one (show Kd.M (Kd.int .i64) _ _ _ ae [.int .i64 ae] from rfl) (Reps.none _ _))))
 intro v208 w9 ar hb hg_ hnew_
 clear hg_ hnew_
 (first | rw [← Ny207.out] at ar | (simp only [Int.reduceToNat] at ar; rw [← Ny207.out] at ar))
 have al := A_.mk (Kd.R_lower ar (G_ (by exact lB HB.out)))
 have am := A_.mk (F_ (g := af) (o := .cells #[.int .u64 ad, .int .u64 ac] 77 (0, 0)) (by refine kB ?_; exact aa.out) hb)
 have an := A_.mk (F_ (g := ak) (o := .cells #[.int .u64 aj, .int .u64 ai] 77 (0, 0)) (by refine kB ?_; exact ab.out) hb)
 have aq := A_.mk (E_ (by exact lB HB.out) hb)
 clear aa
 clear ab
 clear HB
 have av := al
 have aa := am
 have ab := an
 have HB := aq
 clear al am an aq
 clear hb ar
 obtain ⟨aC, aD, eo11⟩ := Kd.R_slice av.out
 (first | subst eo11 | (injection eo11 with f1_ f2_ f3_; have f4_ := f1_.symm; have f5_ := f3_.symm; clear f1_ f2_ f3_; subst f4_; subst f5_))
 refine hK.out _ _ ⟨(D_ aa.out 0).trans rfl, (D_ aa.out 1).trans rfl, (D_ ab.out 0).trans rfl, (D_ ab.out 1).trans rfl⟩ (fun hHeld => ?_)
 clear hK K
 refine norm_ (a' := ?_) ?_ ?_
 rotate_left
 ·show Act.put _ (some 15) _ = _
  exact pA
 refine one_ (i := 11) (N := some 16) #[true, true, true, true, true, true, true, true, true, true, true, true, false] rfl rfl (one_of HT_.out (by kernel_rfl)) (by decide) (fun K hK => ?_)
 refine goes_ Tryd.func51 (by kernel_rfl) rfl #[.slice aC aw.length aD] (by rfl) rfl rfl (by (try simp only [List.map_toArray, List.map_cons, List.map_nil]); first | done | rfl | (simp only [List.length_drop, List.length_take]; rfl)) ?_
 with_reducible refine (cmp_Or_int.calls k _ _ aw ah _ ?side1 ?side2 A5.out).mono ?_
 (case side1 => repeat (first | exact (Kd.R_reads' av.out).2.2 | (with_reducible refine Kd.C_alloc ?_ _) | (with_reducible refine Kd.C_drewN ?_ _) | (with_reducible refine Kd.C_drew ?_)))
 (case side2 => exact (Kd.R_reads' av.out).2.1)
 rintro e w' ⟨rfl, ⟨nd, rfl⟩⟩
 refine ⟨_, rfl, ?_⟩
 refine hK.out _ _ ⟨(D_ aa.out 0).trans rfl, (D_ aa.out 1).trans rfl, (D_ ab.out 0).trans rfl, (D_ ab.out 1).trans rfl⟩ (fun hHeld => ?_)
 clear hK K
 refine norm_ (a' := ?_) ?_ ?_
 rotate_left
 ·show Act.put _ (some 16) _ = _
  exact pA
 refine pure_ (i := 12) (N := some 4) (v := ?_) (a' := ?_) #[true, true, true, true, true, true, true, true, true, true, true, true, true] rfl rfl (A1_ HT_.out (by kernel_rfl)) (fun _ _ _ h => h) (Or.inl ⟨by rfl, ?_⟩) ?_ ?_
 rotate_left
 ·intro w'
  go_simp
  with_reducible rfl
 rotate_left
 ·exact pA
 refine done_ (done_of HT_.out (by kernel_rfl)) ?_
 try go_wp2
 go_ret
 exact ⟨by first | rfl | (simp [errW_none, errW_some] <;> rfl) | (simp [*, errW_none, errW_some] <;> rfl), by exact lB HB.out⟩

end Go.Proofs.YtjcgmjhcaaaieaaDoor.Pr
