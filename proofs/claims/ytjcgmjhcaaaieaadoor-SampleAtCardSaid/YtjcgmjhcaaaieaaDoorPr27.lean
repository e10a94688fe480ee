-- printed by a program of this session's (wip/mp.sh), out of the translation; the texts of its folder 'given' are typed by hand
-- shortened (wip/short.py)
import Derived.Test.YtjcgmjhcaaaieaaDoorPr0
import Derived.Test.YtjcgmjhcaaaieaaDoorPr3
import Derived.Test.YtjcgmjhcaaaieaaDoorPr25
import Derived.Test.YtjcgmjhcaaaieaaDoorPr26
namespace Go.Proofs.YtjcgmjhcaaaieaaDoor.Pr
open Go.RowKit Go.Proofs.YtjcgmjhcaaaieaaDoorW.PrintWords Go.Proofs.YtjcgmjhcaaaieaaDoorW.PrintLast Go.Proofs.YtjcgmjhcaaaieaaDoorW.PrintMore
attribute [local go_sem] max2_int min2_int max_two min_two max_three min_three max_four min_four   -- for this text's walks alone
attribute [local go_sem high] eqA32
set_option linter.unusedVariables false
set_option linter.unusedSimpArgs false

attribute [local go_sem high] eqA77
/-! ### ratio_May: function 22 -/
def ratio_May.f (k : Nat) (ah : Int) (ac : Int) : Option (Bool) := if ac > 0 then ((ratio_size.f ah).bind fun al => ((wide_Of.f al).bind fun aj => ((ratio_size.f ac).bind fun ai => ((wide_Of.f ai).bind fun ad => ((ratio_common.f k aj.1 aj.2 ad.1 ad.2).bind fun ab => (some (ab.1 == 0 && (ab.2 == 1)))))))) else (some false)
theorem ratio_May.mono : ∀ a0 a1 k, LeO (ratio_May.f k a0 a1) (ratio_May.f (k + 1) a0 a1) := by
 intro a0 a1 k
 unfold ratio_May.f
 repeat' first
   | (with_reducible exact ratio_common.mono _ _ _ _ _)
   | (with_reducible exact LeO.refl _)
   | (with_reducible exact LeO.none _)
   | (with_reducible refine LeO.ite ?_ ?_)
   | (with_reducible refine LeO.bind ?_ (fun _ => ?_))
   | exact ratio_common.mono _ _ _ _ _
   | exact LeO.none _
   | refine LeO.ite ?_ ?_
   | refine LeO.bind ?_ (fun _ => ?_)
def ratio_May.T1 : Bool × List (List Nat × List Nat) := (true, [([], []), ([0], [0]), ([1], [1]), ([2], [2]), ([3], [3]), ([4, 3], [3, 4]), ([5, 3, 3], [3, 5]), ([6, 6, 3], [3, 6]), ([3], [3]), ([8, 3], [3, 8]), ([9, 7, 3], [3, 9]), ([10, 10, 3], [3, 10]), ([7, 11, 11, 3], [3, 7, 11]), ([3], [3]), ([12, 13, 3], [3, 12, 13]), ([3, 14], [3, 14]), ([15, 12, 0, 1, 2, 3, 4, 5, 6, 7, 8, 9, 10, 11, 12, 13, 14, 15], [15])])
def ratio_May.B1 : List Nat := [0, 1, 3, 7, 15, 31, 63, 127, 15, 271, 1023, 2047, 4095, 15, 16383, 32767, 65535]
theorem ratio_May.tab1 : rtab .any (opsOf Tryd.f22 1) = ratio_May.T1 := by kernel_rfl
theorem ratio_May.bits1 : waitsOk ratio_May.T1.2 ratio_May.B1 = true := by kernel_rfl
set_option maxHeartbeats 8000000 in
set_option maxRecDepth 100000 in
theorem ratio_May.calls (k : Nat) (ah : Int) (ac : Int) (r : Bool) (w : World) (h : ratio_May.f k ah ac = some r) (hTab : HasTab w) :
  Calls Tryd.prog 22 #[.agg #[.int .i64 ah, .int .i64 ac]] w fun e w' => e = .returned (.bool r) ∧ Below w.heap.size w w' := by
 have aA := Tryd.underlying42
 have aB := Tryd.underlying77
 have HB := A_.mk (Below.refl w.heap.size w)
 have H : (if ac > 0 then ((ratio_size.f ah).bind fun al => ((wide_Of.f al).bind fun aj => ((ratio_size.f ac).bind fun ai => ((wide_Of.f ai).bind fun ad => ((ratio_common.f k aj.1 aj.2 ad.1 ad.2).bind fun ab => (some (ab.1 == 0 && (ab.2 == 1)))))))) else (some false)) = some r := h
 clear h
 by_cases c2 : ac > 0
 ·rw [if_pos c2] at H
  have ay : decide (0 < ac) = true := decide_eq_true c2
  clear c2
  replace H := Option.bind_eq_some_iff.mp H
  obtain ⟨al, A30, H⟩ := H
  replace H : ((wide_Of.f al).bind fun aj => ((ratio_size.f ac).bind fun ai => ((wide_Of.f ai).bind fun ad => ((ratio_common.f k aj.1 aj.2 ad.1 ad.2).bind fun ab => (some (ab.1 == 0 && (ab.2 == 1))))))) = some r := H
  have A3 := A_.mk A30
  clear A30
  replace H := Option.bind_eq_some_iff.mp H
  obtain ⟨⟨am, an⟩, A40, H⟩ := H
  replace H : ((ratio_size.f ac).bind fun ai => ((wide_Of.f ai).bind fun ad => ((ratio_common.f k am an ad.1 ad.2).bind fun ab => (some (ab.1 == 0 && (ab.2 == 1)))))) = some r := H
  have A4 := A_.mk A40
  clear A40
  replace H := Option.bind_eq_some_iff.mp H
  obtain ⟨ai, A50, H⟩ := H
  replace H : ((wide_Of.f ai).bind fun ad => ((ratio_common.f k am an ad.1 ad.2).bind fun ab => (some (ab.1 == 0 && (ab.2 == 1))))) = some r := H
  have A5 := A_.mk A50
  clear A50
  replace H := Option.bind_eq_some_iff.mp H
  obtain ⟨⟨ao, ap⟩, A60, H⟩ := H
  replace H : ((ratio_common.f k am an ao ap).bind fun ab => (some (ab.1 == 0 && (ab.2 == 1)))) = some r := H
  have A6 := A_.mk A60
  clear A60
  replace H := Option.bind_eq_some_iff.mp H
  obtain ⟨⟨au, av⟩, A70, H⟩ := H
  replace H : (some (au == 0 && (av == 1))) = some r := H
  have A7 := A_.mk A70
  clear A70
  obtain rfl := Option.some.inj H
  go_enter Tryd.func22, Tryd.ntmps22
  try go_wp2_with (first | ((with_reducible refine O_ (N := 1) rfl ?_); refine N_ ?hg (N := 1) ?hd (cs := #[.int .i64 ah, .int .i64 ac]) (t := 42) ?hr ?_; (case hd => rfl); (case hg => rfl); (case hr => first | (go_simp; done) | (go_simp; rfl)); intro ae hg w8 hbox hb; have af := A_.mk (E_ (by exact lB HB.out) hb); have ag := A_.mk (hbox); have aq := A_.mk ((by rw [hg]; exact (G_ (by exact lB HB.out)) : w.heap.size ≤ ae)); have ar := A_.mk ((by rw [hg]; exact (G_ (by exact lB HB.out)) : w.heap.size ≤ ae)); clear HB; have HB := af; have aa := ag; have aw := aq; have ak := ar; clear af ag aq ar; clear hb hbox hg))
  have af := A_.mk (Y_ aa.out)
  have ag := A_.mk (T_ HB.out)
  clear aa
  clear HB
  have aa := af
  have HB := ag
  clear af ag
  refine start_ (n := 17) (S := fun w' => w'.cell? ⟨ae, 0, none⟩ = some (.int .i64 ah) ∧ w'.cell? ⟨ae, 1, none⟩ = some (.int .i64 ac)) (ds := []) #[false, false, false, false, false, false, false, false, false, false, false, false, false, false, false, false, false] (by kernel_rfl) rfl rfl ⟨(D_ aa.out 0).trans rfl, (D_ aa.out 1).trans rfl⟩ (fun hHeld => ?_); refine with_tabW ratio_May.tab1 ratio_May.bits1 (fun HT_ HW_ => ?_)
  generalize w8.drew = w9 at aa HB hHeld ⊢
  refine pure_ (i := 0) (N := some 3) (v := ?_) (a' := ?_) #[true, false, false, false, false, false, false, false, false, false, false, false, false, false, false, false, false] rfl rfl (A1_ HT_.out (by kernel_rfl)) (fun _ _ _ h => h) (Or.inl ⟨by rfl, ?_⟩) ?_ ?_
  rotate_left
  ·intro w'
   go_simp
   with_reducible rfl
  rotate_left
  ·exact pA
  refine take_ (i := 1) (N := some 4) (v := ?_) (a' := ?_) #[true, true, false, false, false, false, false, false, false, false, false, false, false, false, false, false, false] rfl rfl (B1_ HT_.out HW_.out (by kernel_rfl)) (fun _ _ _ h => h) (Or.inl ⟨by rfl, ?_⟩) hHeld ?_ ?_
  rotate_left
  ·rintro w' ⟨s0, s1⟩
   go_simp
   with_reducible rfl
  rotate_left
  ·exact pA
  refine pure_ (i := 2) (N := some 5) (v := ?_) (a' := ?_) #[true, true, true, false, false, false, false, false, false, false, false, false, false, false, false, false, false] rfl rfl (A1_ HT_.out (by kernel_rfl)) (fun _ _ _ h => h) (Or.inl ⟨by rfl, ?_⟩) ?_ ?_
  rotate_left
  ·intro w'
   go_simp
   with_reducible rfl
  rotate_left
  ·exact pA
  refine pure_ (i := 3) (N := some 6) (v := ?_) (a' := ?_) #[true, true, true, true, false, false, false, false, false, false, false, false, false, false, false, false, false] rfl rfl (A1_ HT_.out (by kernel_rfl)) (fun _ _ _ h => h) (Or.inl ⟨by rfl, ?_⟩) ?_ ?_
  rotate_left
  ·intro w'
   go_simp
   with_reducible rfl
  rotate_left
  ·exact pA
  refine pure_ (i := 4) (N := some 7) (v := ?_) (a' := ?_) #[true, true, true, true, true, false, false, false, false, false, false, false, false, false, false, false, false] rfl rfl (A1_ HT_.out (by kernel_rfl)) (fun _ _ _ h => h) (Or.inl ⟨by rfl, ?_⟩) ?_ ?_
  rotate_left
  ·intro w'
   go_simp
   with_reducible rfl
  rotate_left
  ·exact pA
  refine pure_ (i := 8) (N := some 11) (v := ?_) (a' := ?_) #[true, true, true, true, true, false, false, false, true, false, false, false, false, false, false, false, false] rfl rfl (A1_ HT_.out (by kernel_rfl)) (fun _ _ _ h => h) (Or.inl ⟨by rfl, ?_⟩) ?_ ?_
  rotate_left
  ·intro w'
   go_simp
   with_reducible rfl
  rotate_left
  ·exact pA
  refine pure_ (i := 13) (N := some 16) (v := ?_) (a' := ?_) #[true, true, true, true, true, false, false, false, true, false, false, false, false, true, false, false, false] rfl rfl (A1_ HT_.out (by kernel_rfl)) (fun _ _ _ h => h) (Or.inl ⟨by rfl, ?_⟩) ?_ ?_
  rotate_left
  ·intro w'
   go_simp
   with_reducible rfl
  rotate_left
  ·exact pA
  refine take_ (i := 5) (N := some 8) (v := ?_) (a' := ?_) #[true, true, true, true, true, true, false, false, true, false, false, false, false, true, false, false, false] rfl rfl (B1_ HT_.out HW_.out (by kernel_rfl)) (fun _ _ _ h => h) (Or.inl ⟨by rfl, ?_⟩) hHeld ?_ ?_
  rotate_left
  ·rintro w' ⟨s0, s1⟩
   go_simp
   with_reducible rfl
  rotate_left
  ·exact pA
  refine take_ (i := 9) (N := some 12) (v := ?_) (a' := ?_) #[true, true, true, true, true, true, false, false, true, true, false, false, false, true, false, false, false] rfl rfl (B1_ HT_.out HW_.out (by kernel_rfl)) (fun _ _ _ h => h) (Or.inl ⟨by rfl, ?_⟩) hHeld ?_ ?_
  rotate_left
  ·rintro w' ⟨s0, s1⟩
   go_simp
   with_reducible rfl
  rotate_left
  ·exact pA
  refine one_ (i := 6) (N := some 9) #[true, true, true, true, true, true, true, false, true, true, false, false, false, true, false, false, false] rfl rfl (one_of HT_.out (by kernel_rfl)) (by decide) (fun K hK => ?_)
  refine goes_ Tryd.func35 (by kernel_rfl) rfl #[.int .i64 ah] (by rfl) rfl rfl (by (try simp only [List.map_toArray, List.map_cons, List.map_nil]); first | done | rfl | (simp only [List.length_drop, List.length_take]; rfl)) ?_
  with_reducible refine (ratio_size.calls ah al _ A3.out).mono ?_
  rintro e w' ⟨rfl, ⟨nd, rfl⟩⟩
  refine ⟨_, rfl, ?_⟩
  refine hK.out _ _ ⟨(D_ aa.out 0).trans rfl, (D_ aa.out 1).trans rfl⟩ (fun hHeld => ?_)
  clear hK K
  refine norm_ (a' := ?_) ?_ ?_
  rotate_left
  ·show Act.put _ (some 9) _ = _
   exact pA
  refine one_ (i := 7) (N := some 10) #[true, true, true, true, true, true, true, true, true, true, false, false, false, true, false, false, false] rfl rfl (one_of HT_.out (by kernel_rfl)) (by decide) (fun K hK => ?_)
  refine goes_ Tryd.func34 (by kernel_rfl) rfl #[.int .u64 al] (by rfl) rfl rfl (by (try simp only [List.map_toArray, List.map_cons, List.map_nil]); first | done | rfl | (simp only [List.length_drop, List.length_take]; rfl)) ?_
  with_reducible refine (wide_Of.calls al am an _ A4.out).mono ?_
  rintro e aC ⟨rfl, hb⟩
  refine ⟨_, rfl, ?_⟩
  have af := A_.mk (F_ (g := ae) (o := .cells #[.int .i64 ah, .int .i64 ac] 42 (0, 0)) (by refine kB ?_; exact aa.out) hb)
  have ag := A_.mk (E_ (by exact lB HB.out) hb)
  clear aa
  clear HB
  have aa := af
  have HB := ag
  clear af ag
  (try clear hb)
  (try clear ax)
  (try clear hk)
  (try clear hi)
  refine hK.out _ _ ⟨(D_ aa.out 0).trans rfl, (D_ aa.out 1).trans rfl⟩ (fun hHeld => ?_)
  clear hK K
  refine norm_ (a' := ?_) ?_ ?_
  rotate_left
  ·show Act.put _ (some 10) _ = _
   exact pA
  refine one_ (i := 10) (N := some 13) #[true, true, true, true, true, true, true, true, true, true, true, false, false, true, false, false, false] rfl rfl (one_of HT_.out (by kernel_rfl)) (by decide) (fun K hK => ?_)
  refine goes_ Tryd.func35 (by kernel_rfl) rfl #[.int .i64 ac] (by rfl) rfl rfl (by (try simp only [List.map_toArray, List.map_cons, List.map_nil]); first | done | rfl | (simp only [List.length_drop, List.length_take]; rfl)) ?_
  with_reducible refine (ratio_size.calls ac ai _ A5.out).mono ?_
  rintro e w' ⟨rfl, ⟨nd, rfl⟩⟩
  refine ⟨_, rfl, ?_⟩
  refine hK.out _ _ ⟨(D_ aa.out 0).trans rfl, (D_ aa.out 1).trans rfl⟩ (fun hHeld => ?_)
  clear hK K
  refine norm_ (a' := ?_) ?_ ?_
  rotate_left
  ·show Act.put _ (some 13) _ = _
   exact pA
  refine one_ (i := 11) (N := some 14) #[true, true, true, true, true, true, true, true, true, true, true, true, false, true, false, false, false] rfl rfl (one_of HT_.out (by kernel_rfl)) (by decide) (fun K hK => ?_)
  refine goes_ Tryd.func34 (by kernel_rfl) rfl #[.int .u64 ai] (by rfl) rfl rfl (by (try simp only [List.map_toArray, List.map_cons, List.map_nil]); first | done | rfl | (simp only [List.length_drop, List.length_take]; rfl)) ?_
  with_reducible refine (wide_Of.calls ai ao ap _ A6.out).mono ?_
  rintro e aD ⟨rfl, hb⟩
  refine ⟨_, rfl, ?_⟩
  have af := A_.mk (F_ (g := ae) (o := .cells #[.int .i64 ah, .int .i64 ac] 42 (0, 0)) (by refine kB ?_; exact aa.out) hb)
  have ag := A_.mk (E_ (by exact lB HB.out) hb)
  clear aa
  clear HB
  have aa := af
  have HB := ag
  clear af ag
  (try clear hb)
  (try clear ax)
  (try clear hk)
  (try clear hi)
  refine hK.out _ _ ⟨(D_ aa.out 0).trans rfl, (D_ aa.out 1).trans rfl⟩ (fun hHeld => ?_)
  clear hK K
  refine norm_ (a' := ?_) ?_ ?_
  rotate_left
  ·show Act.put _ (some 14) _ = _
   exact pA
  refine one_ (i := 12) (N := some 15) #[true, true, true, true, true, true, true, true, true, true, true, true, true, true, false, false, false] rfl rfl (one_of HT_.out (by kernel_rfl)) (by decide) (fun K hK => ?_)
  refine goes_ Tryd.func33 (by kernel_rfl) rfl #[.agg #[.int .u64 am, .int .u64 an], .agg #[.int .u64 ao, .int .u64 ap]] (by rfl) rfl rfl (by (try simp only [List.map_toArray, List.map_cons, List.map_nil]); first | done | rfl | (simp only [List.length_drop, List.length_take]; rfl)) ?_
  with_reducible refine (ratio_common.calls k am an ao ap au av _ A7.out (hTab.below (by exact lB HB.out))).mono ?_
  rintro e aE ⟨rfl, hb⟩
  refine ⟨_, rfl, ?_⟩
  have af := A_.mk (F_ (g := ae) (o := .cells #[.int .i64 ah, .int .i64 ac] 42 (0, 0)) (by refine kB ?_; exact aa.out) hb)
  have ag := A_.mk (E_ (by exact lB HB.out) hb)
  clear aa
  clear HB
  have aa := af
  have HB := ag
  clear af ag
  (try clear hb)
  (try clear ax)
  (try clear hk)
  (try clear hi)
  refine hK.out _ _ ⟨(D_ aa.out 0).trans rfl, (D_ aa.out 1).trans rfl⟩ (fun hHeld => ?_)
  clear hK K
  refine norm_ (a' := ?_) ?_ ?_
  rotate_left
  ·show Act.put _ (some 15) _ = _
   exact pA
  refine pure_ (i := 14) (N := some 17) (v := ?_) (a' := ?_) #[true, true, true, true, true, true, true, true, true, true, true, true, true, true, true, false, false] rfl rfl (A1_ HT_.out (by kernel_rfl)) (fun _ _ _ h => h) (Or.inl ⟨by rfl, ?_⟩) ?_ ?_
  rotate_left
  ·intro w'
   go_simp
   with_reducible rfl
  rotate_left
  ·exact pA
  refine pure_ (i := 15) (N := some 18) (v := ?_) (a' := ?_) #[true, true, true, true, true, true, true, true, true, true, true, true, true, true, true, true, false] rfl rfl (A1_ HT_.out (by kernel_rfl)) (fun _ _ _ h => h) (Or.inl ⟨by rfl, ?_⟩) ?_ ?_
  rotate_left
  ·intro w'
   go_simp
   with_reducible rfl
  rotate_left
  ·exact pA
  refine pure_ (i := 16) (N := some 2) (v := ?_) (a' := ?_) #[true, true, true, true, true, true, true, true, true, true, true, true, true, true, true, true, true] rfl rfl (A1_ HT_.out (by kernel_rfl)) (fun _ _ _ h => h) (Or.inl ⟨by rfl, ?_⟩) ?_ ?_
  rotate_left
  ·intro w'
   go_simp
   with_reducible rfl
  rotate_left
  ·exact pA
  refine done_ (done_of HT_.out (by kernel_rfl)) ?_
  try go_wp2
  go_ret
  exact ⟨by first | rfl | (simp [errW_none, errW_some] <;> rfl) | (simp [*, errW_none, errW_some] <;> rfl), by exact lB HB.out⟩
 ·rw [if_neg c2] at H
  have ay : decide (0 < ac) = false := decide_eq_false c2
  clear c2
  obtain rfl := Option.some.inj H
  go_enter Tryd.func22, Tryd.ntmps22
  try go_wp2_with (first | ((with_reducible refine O_ (N := 1) rfl ?_); refine N_ ?hg (N := 1) ?hd (cs := #[.int .i64 ah, .int .i64 ac]) (t := 42) ?hr ?_; (case hd => rfl); (case hg => rfl); (case hr => first | (go_simp; done) | (go_simp; rfl)); intro ae hg az hbox hb; have af := A_.mk (E_ (by exact lB HB.out) hb); have ag := A_.mk (hbox); have aq := A_.mk ((by rw [hg]; exact (G_ (by exact lB HB.out)) : w.heap.size ≤ ae)); have ar := A_.mk ((by rw [hg]; exact (G_ (by exact lB HB.out)) : w.heap.size ≤ ae)); clear HB; have HB := af; have aa := ag; have aw := aq; have ak := ar; clear af ag aq ar; clear hb hbox hg))
  have af := A_.mk (Y_ aa.out)
  have ag := A_.mk (T_ HB.out)
  clear aa
  clear HB
  have aa := af
  have HB := ag
  clear af ag
  refine start_ (n := 17) (S := fun w' => w'.cell? ⟨ae, 0, none⟩ = some (.int .i64 ah) ∧ w'.cell? ⟨ae, 1, none⟩ = some (.int .i64 ac)) (ds := []) #[false, false, false, false, false, false, false, false, false, false, false, false, false, false, false, false, false] (by kernel_rfl) rfl rfl ⟨(D_ aa.out 0).trans rfl, (D_ aa.out 1).trans rfl⟩ (fun hHeld => ?_); refine with_tabW ratio_May.tab1 ratio_May.bits1 (fun HT_ HW_ => ?_)
  generalize az.drew = aF at aa HB hHeld ⊢
  refine pure_ (i := 0) (N := some 3) (v := ?_) (a' := ?_) #[true, false, false, false, false, false, false, false, false, false, false, false, false, false, false, false, false] rfl rfl (A1_ HT_.out (by kernel_rfl)) (fun _ _ _ h => h) (Or.inl ⟨by rfl, ?_⟩) ?_ ?_
  rotate_left
  ·intro w'
   go_simp
   with_reducible rfl
  rotate_left
  ·exact pA
  refine take_ (i := 1) (N := some 4) (v := ?_) (a' := ?_) #[true, true, false, false, false, false, false, false, false, false, false, false, false, false, false, false, false] rfl rfl (B1_ HT_.out HW_.out (by kernel_rfl)) (fun _ _ _ h => h) (Or.inl ⟨by rfl, ?_⟩) hHeld ?_ ?_
  rotate_left
  ·rintro w' ⟨s0, s1⟩
   go_simp
   with_reducible rfl
  rotate_left
  ·exact pA
  refine pure_ (i := 2) (N := some 5) (v := ?_) (a' := ?_) #[true, true, true, false, false, false, false, false, false, false, false, false, false, false, false, false, false] rfl rfl (A1_ HT_.out (by kernel_rfl)) (fun _ _ _ h => h) (Or.inl ⟨by rfl, ?_⟩) ?_ ?_
  rotate_left
  ·intro w'
   go_simp
   with_reducible rfl
  rotate_left
  ·exact pA
  refine pure_ (i := 3) (N := some 6) (v := ?_) (a' := ?_) #[true, true, true, true, false, false, false, false, false, false, false, false, false, false, false, false, false] rfl rfl (A1_ HT_.out (by kernel_rfl)) (fun _ _ _ h => h) (Or.inl ⟨by rfl, ?_⟩) ?_ ?_
  rotate_left
  ·intro w'
   go_simp
   with_reducible rfl
  rotate_left
  ·exact pA
  refine pure_ (i := 4) (N := some 7) (v := undef) (a' := ?_) #[true, true, true, true, true, false, false, false, false, false, false, false, false, false, false, false, false] rfl rfl (A1_ HT_.out (by kernel_rfl)) (fun _ _ _ h => h) (Or.inr ⟨by rfl, rfl⟩) ?_ ?_
  rotate_left
  ·exact pA
  refine pure_ (i := 5) (N := some 8) (v := undef) (a' := ?_) #[true, true, true, true, true, true, false, false, false, false, false, false, false, false, false, false, false] rfl rfl (A1_ HT_.out (by kernel_rfl)) (fun _ _ _ h => h) (Or.inr ⟨by rfl, rfl⟩) ?_ ?_
  rotate_left
  ·exact pA
  refine pure_ (i := 6) (N := some 9) (v := undef) (a' := ?_) #[true, true, true, true, true, true, true, false, false, false, false, false, false, false, false, false, false] rfl rfl (A1_ HT_.out (by kernel_rfl)) (fun _ _ _ h => h) (Or.inr ⟨by rfl, rfl⟩) ?_ ?_
  rotate_left
  ·exact pA
  refine pure_ (i := 7) (N := some 10) (v := undef) (a' := ?_) #[true, true, true, true, true, true, true, true, false, false, false, false, false, false, false, false, false] rfl rfl (A1_ HT_.out (by kernel_rfl)) (fun _ _ _ h => h) (Or.inr ⟨by rfl, rfl⟩) ?_ ?_
  rotate_left
  ·exact pA
  refine pure_ (i := 8) (N := some 11) (v := undef) (a' := ?_) #[true, true, true, true, true, true, true, true, true, false, false, false, false, false, false, false, false] rfl rfl (A1_ HT_.out (by kernel_rfl)) (fun _ _ _ h => h) (Or.inr ⟨by rfl, rfl⟩) ?_ ?_
  rotate_left
  ·exact pA
  refine pure_ (i := 9) (N := some 12) (v := undef) (a' := ?_) #[true, true, true, true, true, true, true, true, true, true, false, false, false, false, false, false, false] rfl rfl (A1_ HT_.out (by kernel_rfl)) (fun _ _ _ h => h) (Or.inr ⟨by rfl, rfl⟩) ?_ ?_
  rotate_left
  ·exact pA
  refine pure_ (i := 10) (N := some 13) (v := undef) (a' := ?_) #[true, true, true, true, true, true, true, true, true, true, true, false, false, false, false, false, false] rfl rfl (A1_ HT_.out (by kernel_rfl)) (fun _ _ _ h => h) (Or.inr ⟨by rfl, rfl⟩) ?_ ?_
  rotate_left
  ·exact pA
  refine pure_ (i := 11) (N := some 14) (v := undef) (a' := ?_) #[true, true, true, true, true, true, true, true, true, true, true, true, false, false, false, false, false] rfl rfl (A1_ HT_.out (by kernel_rfl)) (fun _ _ _ h => h) (Or.inr ⟨by rfl, rfl⟩) ?_ ?_
  rotate_left
  ·exact pA
  refine pure_ (i := 12) (N := some 15) (v := undef) (a' := ?_) #[true, true, true, true, true, true, true, true, true, true, true, true, true, false, false, false, false] rfl rfl (A1_ HT_.out (by kernel_rfl)) (fun _ _ _ h => h) (Or.inr ⟨by rfl, rfl⟩) ?_ ?_
  rotate_left
  ·exact pA
  refine pure_ (i := 13) (N := some 16) (v := undef) (a' := ?_) #[true, true, true, true, true, true, true, true, true, true, true, true, true, true, false, false, false] rfl rfl (A1_ HT_.out (by kernel_rfl)) (fun _ _ _ h => h) (Or.inr ⟨by rfl, rfl⟩) ?_ ?_
  rotate_left
  ·exact pA
  refine pure_ (i := 14) (N := some 17) (v := undef) (a' := ?_) #[true, true, true, true, true, true, true, true, true, true, true, true, true, true, true, false, false] rfl rfl (A1_ HT_.out (by kernel_rfl)) (fun _ _ _ h => h) (Or.inr ⟨by rfl, rfl⟩) ?_ ?_
  rotate_left
  ·exact pA
  refine pure_ (i := 15) (N := some 18) (v := ?_) (a' := ?_) #[true, true, true, true, true, true, true, true, true, true, true, true, true, true, true, true, false] rfl rfl (A1_ HT_.out (by kernel_rfl)) (fun _ _ _ h => h) (Or.inl ⟨by rfl, ?_⟩) ?_ ?_
  rotate_left
  ·intro w'
   go_simp
   with_reducible rfl
  rotate_left
  ·exact pA
  refine pure_ (i := 16) (N := some 2) (v := ?_) (a' := ?_) #[true, true, true, true, true, true, true, true, true, true, true, true, true, true, true, true, true] rfl rfl (A1_ HT_.out (by kernel_rfl)) (fun _ _ _ h => h) (Or.inl ⟨by rfl, ?_⟩) ?_ ?_
  rotate_left
  ·intro w'
   go_simp
   with_reducible rfl
  rotate_left
  ·exact pA
  refine done_ (done_of HT_.out (by kernel_rfl)) ?_
  try go_wp2
  go_ret
  exact ⟨by first | rfl | (simp [errW_none, errW_some] <;> rfl) | (simp [*, errW_none, errW_some] <;> rfl), by exact lB HB.out⟩

end Go.Proofs.YtjcgmjhcaaaieaaDoor.Pr
