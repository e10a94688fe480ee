-- printed by a program of this session's (wip/mp.sh), out of the translation; the texts of its folder 'given' are typed by hand
-- shortened (wip/short.py)
import Derived.Test.YtjcgmjhcaaaieaaDoorPr0
import Derived.Test.YtjcgmjhcaaaieaaDoorPr18
namespace Go.Proofs.YtjcgmjhcaaaieaaDoor.Pr
open Go.RowKit Go.Proofs.YtjcgmjhcaaaieaaDoorW.PrintWords Go.Proofs.YtjcgmjhcaaaieaaDoorW.PrintLast Go.Proofs.YtjcgmjhcaaaieaaDoorW.PrintMore
attribute [local go_sem] max2_int min2_int max_two min_two max_three min_three max_four min_four   -- for this text's walks alone
attribute [local go_sem high] eqA32
set_option linter.unusedVariables false
set_option linter.unusedSimpArgs false

/-! ### wide_Bits: function 49 -/
def wide_Bits.f (aa : Int) (ad : Int) : Option (Int) := if aa = 0 then ((bits_Len64.f ad).bind fun ah => (some ah)) else ((bits_Len64.f aa).bind fun ai => (some (wrap64 (64 + ai))))
set_option maxHeartbeats 8000000 in
set_option maxRecDepth 100000 in
theorem wide_Bits.calls (aa : Int) (ad : Int) (r : Int) (w : World) (h : wide_Bits.f aa ad = some r) :
  Calls Tryd.prog 49 #[.agg #[.int .u64 aa, .int .u64 ad]] w fun e w' => e = .returned (.int .i64 r) ∧ Below w.heap.size w w' := by
 have az := Tryd.underlying77
 have HB := A_.mk (Below.refl w.heap.size w)
 have H : (if aa = 0 then ((bits_Len64.f ad).bind fun ah => (some ah)) else ((bits_Len64.f aa).bind fun ai => (some (wrap64 (64 + ai))))) = some r := h
 clear h
 by_cases c2 : aa = 0
 ·rw [if_pos c2] at H
  have am : (aa == 0) = true := beq_iff_eq.mpr c2
  have an : (aa != 0) = false := bne_eq_false_iff_eq.mpr c2
  clear c2
  replace H := Option.bind_eq_some_iff.mp H
  obtain ⟨ah, A30, H⟩ := H
  replace H : (some ah) = some r := H
  have A3 := A_.mk A30
  clear A30
  obtain rfl := Option.some.inj H
  go_enter Tryd.func49, Tryd.ntmps49
  go_wp2_with (first | ((with_reducible refine O_ (N := 1) rfl ?_); refine N_ ?hg (N := 1) ?hd (cs := #[.int .u64 aa, .int .u64 ad]) (t := 77) ?hr ?_; (case hd => rfl); (case hg => rfl); (case hr => first | (go_simp; done) | (go_simp; rfl)); intro ac hg w4 hbox hb; have ae := A_.mk (E_ (by exact lB HB.out) hb); have af := A_.mk (hbox); have aj := A_.mk ((by rw [hg]; exact (G_ (by exact lB HB.out)) : w.heap.size ≤ ac)); have ak := A_.mk ((by rw [hg]; exact (G_ (by exact lB HB.out)) : w.heap.size ≤ ac)); clear HB; have HB := ae; have ab := af; have al := aj; have ag := ak; clear ae af aj ak; clear hb hbox hg; have ao : w4.cell? ⟨ac, 0, none⟩ = some (.int .u64 aa) := (D_ ab.out 0).trans rfl; have ap : w4.cell? ⟨ac, 1, none⟩ = some (.int .u64 ad) := (D_ ab.out 1).trans rfl; have aq := B_ ab.out 0; have ar := B_ ab.out 1) | ((with_reducible refine P_ (f := 54) rfl ?_); refine R_ (some 12) rfl rfl Tryd.func54 (by kernel_rfl) rfl #[.int .u64 ad] rfl (by (try simp only [List.map_toArray, List.map_cons, List.map_nil]); first | done | rfl | (simp only [List.length_drop, List.length_take]; rfl)) ?_; (with_reducible refine (bits_Len64.calls ad ah _ A3.out).mono ?_); rintro e w6 ⟨rfl, hb⟩; refine ⟨_, rfl, ?_⟩; have ae := A_.mk (F_ (g := ac) (o := .cells #[.int .u64 aa, .int .u64 ad] 77 (0, 0)) (by refine kB ?_; exact ab.out) hb); have af := A_.mk (E_ (by exact lB HB.out) hb); clear ab; clear HB; have ab := ae; have HB := af; clear ae af; (try clear hb); (try clear au); (try clear hk); (try clear hi)))
  go_ret
  exact ⟨by first | rfl | (simp [errW_none, errW_some] <;> rfl) | (simp [*, errW_none, errW_some] <;> rfl), by exact lB HB.out⟩
 ·rw [if_neg c2] at H
  have am : (aa == 0) = false := beq_eq_false_iff_ne.mpr c2
  have an : (aa != 0) = true := bne_iff_ne.mpr c2
  replace H := Option.bind_eq_some_iff.mp H
  obtain ⟨ai, A70, H⟩ := H
  replace H : (some (wrap64 (64 + ai))) = some r := H
  have A7 := A_.mk A70
  clear A70
  obtain rfl := Option.some.inj H
  go_enter Tryd.func49, Tryd.ntmps49
  go_wp2_with (first | ((with_reducible refine O_ (N := 1) rfl ?_); refine N_ ?hg (N := 1) ?hd (cs := #[.int .u64 aa, .int .u64 ad]) (t := 77) ?hr ?_; (case hd => rfl); (case hg => rfl); (case hr => first | (go_simp; done) | (go_simp; rfl)); intro ac hg w8 hbox hb; have ae := A_.mk (E_ (by exact lB HB.out) hb); have af := A_.mk (hbox); have aj := A_.mk ((by rw [hg]; exact (G_ (by exact lB HB.out)) : w.heap.size ≤ ac)); have ak := A_.mk ((by rw [hg]; exact (G_ (by exact lB HB.out)) : w.heap.size ≤ ac)); clear HB; have HB := ae; have ab := af; have al := aj; have ag := ak; clear ae af aj ak; clear hb hbox hg; have av : w8.cell? ⟨ac, 0, none⟩ = some (.int .u64 aa) := (D_ ab.out 0).trans rfl; have aw : w8.cell? ⟨ac, 1, none⟩ = some (.int .u64 ad) := (D_ ab.out 1).trans rfl; have ax := B_ ab.out 0; have ay := B_ ab.out 1) | ((with_reducible refine P_ (f := 54) rfl ?_); refine R_ (some 8) rfl rfl Tryd.func54 (by kernel_rfl) rfl #[.int .u64 aa] rfl (by (try simp only [List.map_toArray, List.map_cons, List.map_nil]); first | done | rfl | (simp only [List.length_drop, List.length_take]; rfl)) ?_; (with_reducible refine (bits_Len64.calls aa ai _ A7.out).mono ?_); rintro e aA ⟨rfl, hb⟩; refine ⟨_, rfl, ?_⟩; have ae := A_.mk (F_ (g := ac) (o := .cells #[.int .u64 aa, .int .u64 ad] 77 (0, 0)) (by refine kB ?_; exact ab.out) hb); have af := A_.mk (E_ (by exact lB HB.out) hb); clear ab; clear HB; have ab := ae; have HB := af; clear ae af; (try clear hb); (try clear au); (try clear hk); (try clear hi)))
  go_ret
  exact ⟨by first | rfl | (simp [errW_none, errW_some] <;> rfl) | (simp [*, errW_none, errW_some] <;> rfl), by exact lB HB.out⟩

/-! ### wide_left: function 50 -/
def wide_left.f (ae : Int) (aa : Int) (a1 : Int) : Option (Int × Int) := if a1 ≥ 64 then (if 0 ≤ (IntKind.u64.wrap (a1 - 64)) then (some (shl .u64 aa (IntKind.u64.wrap (a1 - 64)), 0)) else (none)) else (if 0 ≤ a1 then (if 0 ≤ (IntKind.u64.wrap (64 - a1)) then (some (Go.bits .or .u64 (shl .u64 ae a1) (shr .u64 aa (IntKind.u64.wrap (64 - a1))), shl .u64 aa a1)) else (none)) else (none))
set_option maxHeartbeats 8000000 in
set_option maxRecDepth 100000 in
theorem wide_left.calls (ae : Int) (aa : Int) (a1 : Int) (r1 : Int) (r2 : Int) (w : World) (h : wide_left.f ae aa a1 = some (r1, r2)) :
  Calls Tryd.prog 50 #[.agg #[.int .u64 ae, .int .u64 aa], .int .u64 a1] w fun e w' => e = .returned (.agg #[.int .u64 r1, .int .u64 r2]) ∧ Below w.heap.size w w' := by
 have bh := Tryd.underlying77
 have HB := A_.mk (Below.refl w.heap.size w)
 have H : (if a1 ≥ 64 then (if 0 ≤ (IntKind.u64.wrap (a1 - 64)) then (some (shl .u64 aa (IntKind.u64.wrap (a1 - 64)), 0)) else (none)) else (if 0 ≤ a1 then (if 0 ≤ (IntKind.u64.wrap (64 - a1)) then (some (Go.bits .or .u64 (shl .u64 ae a1) (shr .u64 aa (IntKind.u64.wrap (64 - a1))), shl .u64 aa a1)) else (none)) else (none))) = some (r1, r2) := h
 clear h
 by_cases c3 : a1 ≥ 64
 ·rw [if_pos c3] at H
  have aK : decide (64 ≤ a1) = true := decide_eq_true c3
  clear c3
  obtain ⟨av, aG⟩ : ∃ j_ : Int, (IntKind.u64.wrap (a1 - 64)) = j_ := ⟨_, rfl⟩
  replace H : (if 0 ≤ (av) then (some (shl .u64 aa (av), 0)) else (none)) = some (r1, r2) := by first | (rw [aG] at H; exact H) | (simp only [aG] at H ⊢; exact H)
  by_cases c5 : 0 ≤ (av)
  ·rw [if_pos c5] at H
   have bi := eq_true c5
   have bj : decide (0 ≤ (av)) = true := decide_eq_true c5
   clear c5
   obtain ⟨aC, aw⟩ : ∃ j_ : Int, (shl .u64 aa (av)) = j_ := ⟨_, rfl⟩
   replace H : (some (aC, 0)) = some (r1, r2) := by first | (rw [aw] at H; exact H) | (simp only [aw] at H ⊢; exact H)
   have a8 : (IntKind.u64.wrap (aa * 2 ^ min (av).toNat 64)) = aC := aw
   have a9 : (av) ≤ 64 → (IntKind.u64.wrap (aa * 2 ^ (av).toNat)) = aC := shl_small aw
   simp only [Option.some.injEq, Prod.mk.injEq] at H
   obtain ⟨rfl, rfl⟩ := H
   go_enter Tryd.func50, Tryd.ntmps50
   go_wp2_with (first | ((with_reducible refine O_ (N := 2) rfl ?_); refine N_ ?hg (N := 2) ?hd (cs := #[.int .u64 ae, .int .u64 aa]) (t := 77) ?hr ?_; (case hd => rfl); (case hg => rfl); (case hr => first | (go_simp; done) | (go_simp; rfl)); intro ab hg w7 hbox hb; have ah := A_.mk (E_ (by exact lB HB.out) hb); have ai := A_.mk (hbox); have aj := A_.mk ((by rw [hg]; exact (G_ (by exact lB HB.out)) : w.heap.size ≤ ab)); have ak := A_.mk ((by rw [hg]; exact (G_ (by exact lB HB.out)) : w.heap.size ≤ ab)); clear HB; have HB := ah; have ac := ai; have aI := aj; have ag := ak; clear ah ai aj ak; clear hb hbox hg) | ((with_reducible refine O_ (N := 4) rfl ?_); refine N_ ?hg (N := 4) ?hd (cs := #[.int .u64 0, .int .u64 0]) (t := 77) ?hr ?_; (case hd => rfl); (case hg => rfl); (case hr => first | (go_simp; done) | (go_simp; rfl)); intro ad hg w8 hbox hb; have ah := A_.mk (F_ (g := ab) (o := .cells #[.int .u64 ae, .int .u64 aa] 77 (0, 0)) (by refine kB ?_; exact ac.out) hb); have ai := A_.mk (E_ (by exact lB HB.out) hb); have aj := A_.mk (hbox); have ak := A_.mk ((by rw [hg]; exact (G_ (by exact lB HB.out)) : w.heap.size ≤ ad)); have aD := A_.mk ((by rw [hg]; exact (G_ (by exact lB HB.out)) : w.heap.size ≤ ad)); have aE := A_.mk ((by rw [hg]; exact Nat.ne_of_lt (M_ (g := ab) (o := .cells #[.int .u64 ae, .int .u64 aa] 77 (0, 0)) (by refine kB ?_; exact ac.out)) : ab ≠ ad)); have aF := A_.mk ((by rw [hg]; exact Nat.ne_of_gt (M_ (g := ab) (o := .cells #[.int .u64 ae, .int .u64 aa] 77 (0, 0)) (by refine kB ?_; exact ac.out)) : ad ≠ ab)); clear ac; clear HB; have ac := ah; have HB := ai; have af := aj; have aJ := ak; have az := aD; have al := aE; have am := aF; clear ah ai aj ak aD aE aF; clear hb hbox hg; have bk := al.out; have bl := am.out; have aL : w8.cell? ⟨ab, 0, none⟩ = some (.int .u64 ae) := (D_ ac.out 0).trans rfl; have aM : w8.cell? ⟨ab, 1, none⟩ = some (.int .u64 aa) := (D_ ac.out 1).trans rfl; have aN := B_ ac.out 0; have aO := B_ ac.out 1; have aP : w8.cell? ⟨ad, 0, none⟩ = some (.int .u64 0) := (D_ af.out 0).trans rfl; have aQ : w8.cell? ⟨ad, 1, none⟩ = some (.int .u64 0) := (D_ af.out 1).trans rfl; have aR := B_ af.out 0; have aS := B_ af.out 1))
   refine bodyPost_ret (results_cell_row rfl _ _ ad 77 #[.int .u64 aC, .int .u64 0] (0, 0) _ rfl (by refine kB ?_; refine L_ (cs := #[.int .u64 aC, .int .u64 0]) ?_ 1 _ rfl; refine kB ?_; refine L_ (cs := #[.int .u64 0, .int .u64 0]) ?_ 0 _ rfl; refine kB ?_; exact af.out) Tryd.underlying77 rfl (by kernel_rfl)) rfl ?_
   exact ⟨by first | rfl | (simp [errW_none, errW_some] <;> rfl) | (simp only [← aG, ← aw]; first | rfl | (simp [errW_none, errW_some] <;> rfl)) | (simp [*, errW_none, errW_some] <;> rfl), by exact lB HB.out⟩
  ·rw [if_neg c5] at H
   exact absurd H (by simp)
 ·rw [if_neg c3] at H
  have aK : decide (64 ≤ a1) = false := decide_eq_false c3
  clear c3
  by_cases c12 : 0 ≤ a1
  ·rw [if_pos c12] at H
   have ba := eq_true c12
   have bb : decide (0 ≤ a1) = true := decide_eq_true c12
   clear c12
   obtain ⟨an, ap⟩ : ∃ j_ : Int, (shl .u64 ae a1) = j_ := ⟨_, rfl⟩
   replace H : (if 0 ≤ (IntKind.u64.wrap (64 - a1)) then (some (Go.bits .or .u64 (an) (shr .u64 aa (IntKind.u64.wrap (64 - a1))), shl .u64 aa a1)) else (none)) = some (r1, r2) := by first | (rw [ap] at H; exact H) | (simp only [ap] at H ⊢; exact H)
   have a2 : (IntKind.u64.wrap (ae * 2 ^ min a1.toNat 64)) = an := ap
   have a3 : a1 ≤ 64 → (IntKind.u64.wrap (ae * 2 ^ a1.toNat)) = an := shl_small ap
   obtain ⟨ao, aA⟩ : ∃ j_ : Int, (IntKind.u64.wrap (64 - a1)) = j_ := ⟨_, rfl⟩
   replace H : (if 0 ≤ (ao) then (some (Go.bits .or .u64 (an) (shr .u64 aa (ao)), shl .u64 aa a1)) else (none)) = some (r1, r2) := by first | (rw [aA] at H; exact H) | (simp only [aA] at H ⊢; exact H)
   by_cases c15 : 0 ≤ (ao)
   ·rw [if_pos c15] at H
    have bc := eq_true c15
    have bd : decide (0 ≤ (ao)) = true := decide_eq_true c15
    clear c15
    obtain ⟨au, aq⟩ : ∃ j_ : Int, (shr .u64 aa (ao)) = j_ := ⟨_, rfl⟩
    replace H : (some (Go.bits .or .u64 (an) (au), shl .u64 aa a1)) = some (r1, r2) := by first | (rw [aq] at H; exact H) | (simp only [aq] at H ⊢; exact H)
    have a4 : (aa / 2 ^ min (ao).toNat 64) = au := aq
    have a5 : (ao) ≤ 64 → (aa / 2 ^ (ao).toNat) = au := shr_small aq
    have be := eq_true (of_decide_eq_true (by first | (with_reducible assumption) | assumption) : 0 ≤ a1)
    obtain ⟨aB, ar⟩ : ∃ j_ : Int, (shl .u64 aa a1) = j_ := ⟨_, rfl⟩
    replace H : (some (Go.bits .or .u64 (an) (au), aB)) = some (r1, r2) := by first | (rw [ar] at H; exact H) | (simp only [ar] at H ⊢; exact H)
    have a6 : (IntKind.u64.wrap (aa * 2 ^ min a1.toNat 64)) = aB := ar
    have a7 : a1 ≤ 64 → (IntKind.u64.wrap (aa * 2 ^ a1.toNat)) = aB := shl_small ar
    simp only [Option.some.injEq, Prod.mk.injEq] at H
    obtain ⟨rfl, rfl⟩ := H
    go_enter Tryd.func50, Tryd.ntmps50
    go_wp2_with (first | ((with_reducible refine O_ (N := 2) rfl ?_); refine N_ ?hg (N := 2) ?hd (cs := #[.int .u64 ae, .int .u64 aa]) (t := 77) ?hr ?_; (case hd => rfl); (case hg => rfl); (case hr => first | (go_simp; done) | (go_simp; rfl)); intro ab hg bm hbox hb; have ah := A_.mk (E_ (by exact lB HB.out) hb); have ai := A_.mk (hbox); have aj := A_.mk ((by rw [hg]; exact (G_ (by exact lB HB.out)) : w.heap.size ≤ ab)); have ak := A_.mk ((by rw [hg]; exact (G_ (by exact lB HB.out)) : w.heap.size ≤ ab)); clear HB; have HB := ah; have ac := ai; have aI := aj; have ag := ak; clear ah ai aj ak; clear hb hbox hg) | ((with_reducible refine O_ (N := 4) rfl ?_); refine N_ ?hg (N := 4) ?hd (cs := #[.int .u64 0, .int .u64 0]) (t := 77) ?hr ?_; (case hd => rfl); (case hg => rfl); (case hr => first | (go_simp; done) | (go_simp; rfl)); intro ad hg aH hbox hb; have ah := A_.mk (F_ (g := ab) (o := .cells #[.int .u64 ae, .int .u64 aa] 77 (0, 0)) (by refine kB ?_; exact ac.out) hb); have ai := A_.mk (E_ (by exact lB HB.out) hb); have aj := A_.mk (hbox); have ak := A_.mk ((by rw [hg]; exact (G_ (by exact lB HB.out)) : w.heap.size ≤ ad)); have aD := A_.mk ((by rw [hg]; exact (G_ (by exact lB HB.out)) : w.heap.size ≤ ad)); have aE := A_.mk ((by rw [hg]; exact Nat.ne_of_lt (M_ (g := ab) (o := .cells #[.int .u64 ae, .int .u64 aa] 77 (0, 0)) (by refine kB ?_; exact ac.out)) : ab ≠ ad)); have aF := A_.mk ((by rw [hg]; exact Nat.ne_of_gt (M_ (g := ab) (o := .cells #[.int .u64 ae, .int .u64 aa] 77 (0, 0)) (by refine kB ?_; exact ac.out)) : ad ≠ ab)); clear ac; clear HB; have ac := ah; have HB := ai; have af := aj; have aJ := ak; have az := aD; have al := aE; have am := aF; clear ah ai aj ak aD aE aF; clear hb hbox hg; have bf := al.out; have bg := am.out; have aT : aH.cell? ⟨ab, 0, none⟩ = some (.int .u64 ae) := (D_ ac.out 0).trans rfl; have aU : aH.cell? ⟨ab, 1, none⟩ = some (.int .u64 aa) := (D_ ac.out 1).trans rfl; have aV := B_ ac.out 0; have aW := B_ ac.out 1; have aX : aH.cell? ⟨ad, 0, none⟩ = some (.int .u64 0) := (D_ af.out 0).trans rfl; have aY : aH.cell? ⟨ad, 1, none⟩ = some (.int .u64 0) := (D_ af.out 1).trans rfl; have aZ := B_ af.out 0; have a0 := B_ af.out 1))
    refine bodyPost_ret (results_cell_row rfl _ _ ad 77 #[.int .u64 (Go.bits .or .u64 (an) (au)), .int .u64 aB] (0, 0) _ rfl (by refine kB ?_; refine L_ (cs := #[.int .u64 (Go.bits .or .u64 (an) (au)), .int .u64 0]) ?_ 1 _ rfl; refine kB ?_; refine L_ (cs := #[.int .u64 0, .int .u64 0]) ?_ 0 _ rfl; refine kB ?_; exact af.out) Tryd.underlying77 rfl (by kernel_rfl)) rfl ?_
    exact ⟨by first | rfl | (simp [errW_none, errW_some] <;> rfl) | (simp only [← ap, ← aA, ← aq, ← ar]; first | rfl | (simp [errW_none, errW_some] <;> rfl)) | (simp [*, errW_none, errW_some] <;> rfl), by exact lB HB.out⟩
   ·rw [if_neg c15] at H
    exact absurd H (by simp)
  ·rw [if_neg c12] at H
   exact absurd H (by simp)

end Go.Proofs.YtjcgmjhcaaaieaaDoor.Pr
