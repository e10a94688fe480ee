-- printed by a program of this session's (wip/mp.sh), out of the translation; the texts of its folder 'given' are typed by hand
-- shortened (wip/short.py)
import Derived.Test.YtjcgmjhcaaaieaaDoorPr0
import Derived.Test.YtjcgmjhcaaaieaaDoorPr16
namespace Go.Proofs.YtjcgmjhcaaaieaaDoor.Pr
open Go.RowKit Go.Proofs.YtjcgmjhcaaaieaaDoorW.PrintWords Go.Proofs.YtjcgmjhcaaaieaaDoorW.PrintLast Go.Proofs.YtjcgmjhcaaaieaaDoorW.PrintMore
attribute [local go_sem] max2_int min2_int max_two min_two max_three min_three max_four min_four   -- for this text's walks alone
attribute [local go_sem high] eqA32
set_option linter.unusedVariables false
set_option linter.unusedSimpArgs false

/-! ### ratio_twos: function 42 -/
def ratio_twos.f (ad : Int) (aa : Int) : Option (Int) := if aa = 0 then ((bits_TrailingZeros64.f ad).bind fun ah => (some (wrap64 (64 + ah)))) else ((bits_TrailingZeros64.f aa).bind fun ai => (some ai))
set_option maxHeartbeats 8000000 in
set_option maxRecDepth 100000 in
theorem ratio_twos.calls (ad : Int) (aa : Int) (r : Int) (w : World) (h : ratio_twos.f ad aa = some r) (hTab : HasTab w) :
  Calls Tryd.prog 42 #[.agg #[.int .u64 ad, .int .u64 aa]] w fun e w' => e = .returned (.int .i64 r) ∧ Below w.heap.size w w' := by
 have az := Tryd.underlying77
 have HB := A_.mk (Below.refl w.heap.size w)
 have H : (if aa = 0 then ((bits_TrailingZeros64.f ad).bind fun ah => (some (wrap64 (64 + ah)))) else ((bits_TrailingZeros64.f aa).bind fun ai => (some ai))) = some r := h
 clear h
 by_cases c2 : aa = 0
 ·rw [if_pos c2] at H
  have am : (aa == 0) = true := beq_iff_eq.mpr c2
  have an : (aa != 0) = false := bne_eq_false_iff_eq.mpr c2
  clear c2
  replace H := Option.bind_eq_some_iff.mp H
  obtain ⟨ah, A30, H⟩ := H
  replace H : (some (wrap64 (64 + ah))) = some r := H
  have A3 := A_.mk A30
  clear A30
  obtain rfl := Option.some.inj H
  go_enter Tryd.func42, Tryd.ntmps42
  go_wp2_with (first | ((with_reducible refine O_ (N := 1) rfl ?_); refine N_ ?hg (N := 1) ?hd (cs := #[.int .u64 ad, .int .u64 aa]) (t := 77) ?hr ?_; (case hd => rfl); (case hg => rfl); (case hr => first | (go_simp; done) | (go_simp; rfl)); intro ac hg w4 hbox hb; have af := A_.mk (E_ (by exact lB HB.out) hb); have ag := A_.mk (hbox); have aj := A_.mk ((by rw [hg]; exact (G_ (by exact lB HB.out)) : w.heap.size ≤ ac)); have ak := A_.mk ((by rw [hg]; exact (G_ (by exact lB HB.out)) : w.heap.size ≤ ac)); clear HB; have HB := af; have ab := ag; have al := aj; have ae := ak; clear af ag aj ak; clear hb hbox hg; have ao : w4.cell? ⟨ac, 0, none⟩ = some (.int .u64 ad) := (D_ ab.out 0).trans rfl; have ap : w4.cell? ⟨ac, 1, none⟩ = some (.int .u64 aa) := (D_ ab.out 1).trans rfl; have aq := B_ ab.out 0; have ar := B_ ab.out 1) | ((with_reducible refine P_ (f := 47) rfl ?_); refine R_ (some 11) rfl rfl Tryd.func47 (by kernel_rfl) rfl #[.int .u64 ad] rfl (by (try simp only [List.map_toArray, List.map_cons, List.map_nil]); first | done | rfl | (simp only [List.length_drop, List.length_take]; rfl)) ?_; (with_reducible refine (bits_TrailingZeros64.calls ad ah _ A3.out (hTab.below (by exact lB HB.out))).mono ?_); rintro e w6 ⟨rfl, hb⟩; refine ⟨_, rfl, ?_⟩; have af := A_.mk (F_ (g := ac) (o := .cells #[.int .u64 ad, .int .u64 aa] 77 (0, 0)) (by refine kB ?_; exact ab.out) hb); have ag := A_.mk (E_ (by exact lB HB.out) hb); clear ab; clear HB; have ab := af; have HB := ag; clear af ag; (try clear hb); (try clear au); (try clear hk); (try clear hi)))
  go_ret
  exact ⟨by first | rfl | (simp [errW_none, errW_some] <;> rfl) | (simp [*, errW_none, errW_some] <;> rfl), by exact lB HB.out⟩
 ·rw [if_neg c2] at H
  have am : (aa == 0) = false := beq_eq_false_iff_ne.mpr c2
  have an : (aa != 0) = true := bne_iff_ne.mpr c2
  replace H := Option.bind_eq_some_iff.mp H
  obtain ⟨ai, A70, H⟩ := H
  replace H : (some ai) = some r := H
  have A7 := A_.mk A70
  clear A70
  obtain rfl := Option.some.inj H
  go_enter Tryd.func42, Tryd.ntmps42
  go_wp2_with (first | ((with_reducible refine O_ (N := 1) rfl ?_); refine N_ ?hg (N := 1) ?hd (cs := #[.int .u64 ad, .int .u64 aa]) (t := 77) ?hr ?_; (case hd => rfl); (case hg => rfl); (case hr => first | (go_simp; done) | (go_simp; rfl)); intro ac hg w8 hbox hb; have af := A_.mk (E_ (by exact lB HB.out) hb); have ag := A_.mk (hbox); have aj := A_.mk ((by rw [hg]; exact (G_ (by exact lB HB.out)) : w.heap.size ≤ ac)); have ak := A_.mk ((by rw [hg]; exact (G_ (by exact lB HB.out)) : w.heap.size ≤ ac)); clear HB; have HB := af; have ab := ag; have al := aj; have ae := ak; clear af ag aj ak; clear hb hbox hg; have av : w8.cell? ⟨ac, 0, none⟩ = some (.int .u64 ad) := (D_ ab.out 0).trans rfl; have aw : w8.cell? ⟨ac, 1, none⟩ = some (.int .u64 aa) := (D_ ab.out 1).trans rfl; have ax := B_ ab.out 0; have ay := B_ ab.out 1) | ((with_reducible refine P_ (f := 47) rfl ?_); refine R_ (some 8) rfl rfl Tryd.func47 (by kernel_rfl) rfl #[.int .u64 aa] rfl (by (try simp only [List.map_toArray, List.map_cons, List.map_nil]); first | done | rfl | (simp only [List.length_drop, List.length_take]; rfl)) ?_; (with_reducible refine (bits_TrailingZeros64.calls aa ai _ A7.out (hTab.below (by exact lB HB.out))).mono ?_); rintro e aA ⟨rfl, hb⟩; refine ⟨_, rfl, ?_⟩; have af := A_.mk (F_ (g := ac) (o := .cells #[.int .u64 ad, .int .u64 aa] 77 (0, 0)) (by refine kB ?_; exact ab.out) hb); have ag := A_.mk (E_ (by exact lB HB.out) hb); clear ab; clear HB; have ab := af; have HB := ag; clear af ag; (try clear hb); (try clear au); (try clear hk); (try clear hi)))
  go_ret
  exact ⟨by first | rfl | (simp [errW_none, errW_some] <;> rfl) | (simp [*, errW_none, errW_some] <;> rfl), by exact lB HB.out⟩

/-! ### wide_right: function 48 -/
def wide_right.f (aa : Int) (ad : Int) (a1 : Int) : Option (Int × Int) := if a1 ≥ 64 then (if 0 ≤ (IntKind.u64.wrap (a1 - 64)) then (some (0, shr .u64 aa (IntKind.u64.wrap (a1 - 64)))) else (none)) else (if 0 ≤ a1 then (if 0 ≤ (IntKind.u64.wrap (64 - a1)) then (some (shr .u64 aa a1, Go.bits .or .u64 (shr .u64 ad a1) (shl .u64 aa (IntKind.u64.wrap (64 - a1))))) else (none)) else (none))
set_option maxHeartbeats 8000000 in
set_option maxRecDepth 100000 in
theorem wide_right.calls (aa : Int) (ad : Int) (a1 : Int) (r1 : Int) (r2 : Int) (w : World) (h : wide_right.f aa ad a1 = some (r1, r2)) :
  Calls Tryd.prog 48 #[.agg #[.int .u64 aa, .int .u64 ad], .int .u64 a1] w fun e w' => e = .returned (.agg #[.int .u64 r1, .int .u64 r2]) ∧ Below w.heap.size w w' := by
 have bh := Tryd.underlying77
 have HB := A_.mk (Below.refl w.heap.size w)
 have H : (if a1 ≥ 64 then (if 0 ≤ (IntKind.u64.wrap (a1 - 64)) then (some (0, shr .u64 aa (IntKind.u64.wrap (a1 - 64)))) else (none)) else (if 0 ≤ a1 then (if 0 ≤ (IntKind.u64.wrap (64 - a1)) then (some (shr .u64 aa a1, Go.bits .or .u64 (shr .u64 ad a1) (shl .u64 aa (IntKind.u64.wrap (64 - a1))))) else (none)) else (none))) = some (r1, r2) := h
 clear h
 by_cases c3 : a1 ≥ 64
 ·rw [if_pos c3] at H
  have aK : decide (64 ≤ a1) = true := decide_eq_true c3
  clear c3
  obtain ⟨av, aF⟩ : ∃ j_ : Int, (IntKind.u64.wrap (a1 - 64)) = j_ := ⟨_, rfl⟩
  replace H : (if 0 ≤ (av) then (some (0, shr .u64 aa (av))) else (none)) = some (r1, r2) := by first | (rw [aF] at H; exact H) | (simp only [aF] at H ⊢; exact H)
  by_cases c5 : 0 ≤ (av)
  ·rw [if_pos c5] at H
   have bi := eq_true c5
   have bj : decide (0 ≤ (av)) = true := decide_eq_true c5
   clear c5
   obtain ⟨aG, aw⟩ : ∃ j_ : Int, (shr .u64 aa (av)) = j_ := ⟨_, rfl⟩
   replace H : (some (0, aG)) = some (r1, r2) := by first | (rw [aw] at H; exact H) | (simp only [aw] at H ⊢; exact H)
   have a8 : (aa / 2 ^ min (av).toNat 64) = aG := aw
   have a9 : (av) ≤ 64 → (aa / 2 ^ (av).toNat) = aG := shr_small aw
   simp only [Option.some.injEq, Prod.mk.injEq] at H
   obtain ⟨rfl, rfl⟩ := H
   go_enter Tryd.func48, Tryd.ntmps48
   go_wp2_with (first | ((with_reducible refine O_ (N := 2) rfl ?_); refine N_ ?hg (N := 2) ?hd (cs := #[.int .u64 aa, .int .u64 ad]) (t := 77) ?hr ?_; (case hd => rfl); (case hg => rfl); (case hr => first | (go_simp; done) | (go_simp; rfl)); intro ab hg w7 hbox hb; have ah := A_.mk (E_ (by exact lB HB.out) hb); have ai := A_.mk (hbox); have aj := A_.mk ((by rw [hg]; exact (G_ (by exact lB HB.out)) : w.heap.size ≤ ab)); have ak := A_.mk ((by rw [hg]; exact (G_ (by exact lB HB.out)) : w.heap.size ≤ ab)); clear HB; have HB := ah; have ac := ai; have aI := aj; have ag := ak; clear ah ai aj ak; clear hb hbox hg) | ((with_reducible refine O_ (N := 4) rfl ?_); refine N_ ?hg (N := 4) ?hd (cs := #[.int .u64 0, .int .u64 0]) (t := 77) ?hr ?_; (case hd => rfl); (case hg => rfl); (case hr => first | (go_simp; done) | (go_simp; rfl)); intro ae hg w8 hbox hb; have ah := A_.mk (F_ (g := ab) (o := .cells #[.int .u64 aa, .int .u64 ad] 77 (0, 0)) (by refine kB ?_; exact ac.out) hb); have ai := A_.mk (E_ (by exact lB HB.out) hb); have aj := A_.mk (hbox); have ak := A_.mk ((by rw [hg]; exact (G_ (by exact lB HB.out)) : w.heap.size ≤ ae)); have aC := A_.mk ((by rw [hg]; exact (G_ (by exact lB HB.out)) : w.heap.size ≤ ae)); have aD := A_.mk ((by rw [hg]; exact Nat.ne_of_lt (M_ (g := ab) (o := .cells #[.int .u64 aa, .int .u64 ad] 77 (0, 0)) (by refine kB ?_; exact ac.out)) : ab ≠ ae)); have aE := A_.mk ((by rw [hg]; exact Nat.ne_of_gt (M_ (g := ab) (o := .cells #[.int .u64 aa, .int .u64 ad] 77 (0, 0)) (by refine kB ?_; exact ac.out)) : ae ≠ ab)); clear ac; clear HB; have ac := ah; have HB := ai; have af := aj; have aJ := ak; have az := aC; have al := aD; have am := aE; clear ah ai aj ak aC aD aE; clear hb hbox hg; have bk := al.out; have bl := am.out; have aL : w8.cell? ⟨ab, 0, none⟩ = some (.int .u64 aa) := (D_ ac.out 0).trans rfl; have aM : w8.cell? ⟨ab, 1, none⟩ = some (.int .u64 ad) := (D_ ac.out 1).trans rfl; have aN := B_ ac.out 0; have aO := B_ ac.out 1; have aP : w8.cell? ⟨ae, 0, none⟩ = some (.int .u64 0) := (D_ af.out 0).trans rfl; have aQ : w8.cell? ⟨ae, 1, none⟩ = some (.int .u64 0) := (D_ af.out 1).trans rfl; have aR := B_ af.out 0; have aS := B_ af.out 1))
   refine bodyPost_ret (results_cell_row rfl _ _ ae 77 #[.int .u64 0, .int .u64 aG] (0, 0) _ rfl (by refine kB ?_; refine L_ (cs := #[.int .u64 0, .int .u64 0]) ?_ 1 _ rfl; refine kB ?_; refine L_ (cs := #[.int .u64 0, .int .u64 0]) ?_ 0 _ rfl; refine kB ?_; exact af.out) Tryd.underlying77 rfl (by kernel_rfl)) rfl ?_
   exact ⟨by first | rfl | (simp [errW_none, errW_some] <;> rfl) | (simp only [← aF, ← aw]; first | rfl | (simp [errW_none, errW_some] <;> rfl)) | (simp [*, errW_none, errW_some] <;> rfl), by exact lB HB.out⟩
  ·rw [if_neg c5] at H
   exact absurd H (by simp)
 ·rw [if_neg c3] at H
  have aK : decide (64 ≤ a1) = false := decide_eq_false c3
  clear c3
  by_cases c12 : 0 ≤ a1
  ·rw [if_pos c12] at H
   have ba := eq_true c12
   have bb : decide (0 ≤ a1) = true := decide_eq_true c12
   clear c12
   obtain ⟨an, ap⟩ : ∃ j_ : Int, (shr .u64 aa a1) = j_ := ⟨_, rfl⟩
   replace H : (if 0 ≤ (IntKind.u64.wrap (64 - a1)) then (some (an, Go.bits .or .u64 (shr .u64 ad a1) (shl .u64 aa (IntKind.u64.wrap (64 - a1))))) else (none)) = some (r1, r2) := by first | (rw [ap] at H; exact H) | (simp only [ap] at H ⊢; exact H)
   have a2 : (aa / 2 ^ min a1.toNat 64) = an := ap
   have a3 : a1 ≤ 64 → (aa / 2 ^ a1.toNat) = an := shr_small ap
   have bc := eq_true (of_decide_eq_true (by first | (with_reducible assumption) | assumption) : 0 ≤ a1)
   obtain ⟨au, aq⟩ : ∃ j_ : Int, (shr .u64 ad a1) = j_ := ⟨_, rfl⟩
   replace H : (if 0 ≤ (IntKind.u64.wrap (64 - a1)) then (some (an, Go.bits .or .u64 (au) (shl .u64 aa (IntKind.u64.wrap (64 - a1))))) else (none)) = some (r1, r2) := by first | (rw [aq] at H; exact H) | (simp only [aq] at H ⊢; exact H)
   have a4 : (ad / 2 ^ min a1.toNat 64) = au := aq
   have a5 : a1 ≤ 64 → (ad / 2 ^ a1.toNat) = au := shr_small aq
   obtain ⟨ao, aA⟩ : ∃ j_ : Int, (IntKind.u64.wrap (64 - a1)) = j_ := ⟨_, rfl⟩
   replace H : (if 0 ≤ (ao) then (some (an, Go.bits .or .u64 (au) (shl .u64 aa (ao)))) else (none)) = some (r1, r2) := by first | (rw [aA] at H; exact H) | (simp only [aA] at H ⊢; exact H)
   by_cases c17 : 0 ≤ (ao)
   ·rw [if_pos c17] at H
    have bd := eq_true c17
    have be : decide (0 ≤ (ao)) = true := decide_eq_true c17
    clear c17
    obtain ⟨aB, ar⟩ : ∃ j_ : Int, (shl .u64 aa (ao)) = j_ := ⟨_, rfl⟩
    replace H : (some (an, Go.bits .or .u64 (au) (aB))) = some (r1, r2) := by first | (rw [ar] at H; exact H) | (simp only [ar] at H ⊢; exact H)
    have a6 : (IntKind.u64.wrap (aa * 2 ^ min (ao).toNat 64)) = aB := ar
    have a7 : (ao) ≤ 64 → (IntKind.u64.wrap (aa * 2 ^ (ao).toNat)) = aB := shl_small ar
    simp only [Option.some.injEq, Prod.mk.injEq] at H
    obtain ⟨rfl, rfl⟩ := H
    go_enter Tryd.func48, Tryd.ntmps48
    go_wp2_with (first | ((with_reducible refine O_ (N := 2) rfl ?_); refine N_ ?hg (N := 2) ?hd (cs := #[.int .u64 aa, .int .u64 ad]) (t := 77) ?hr ?_; (case hd => rfl); (case hg => rfl); (case hr => first | (go_simp; done) | (go_simp; rfl)); intro ab hg bm hbox hb; have ah := A_.mk (E_ (by exact lB HB.out) hb); have ai := A_.mk (hbox); have aj := A_.mk ((by rw [hg]; exact (G_ (by exact lB HB.out)) : w.heap.size ≤ ab)); have ak := A_.mk ((by rw [hg]; exact (G_ (by exact lB HB.out)) : w.heap.size ≤ ab)); clear HB; have HB := ah; have ac := ai; have aI := aj; have ag := ak; clear ah ai aj ak; clear hb hbox hg) | ((with_reducible refine O_ (N := 4) rfl ?_); refine N_ ?hg (N := 4) ?hd (cs := #[.int .u64 0, .int .u64 0]) (t := 77) ?hr ?_; (case hd => rfl); (case hg => rfl); (case hr => first | (go_simp; done) | (go_simp; rfl)); intro ae hg aH hbox hb; have ah := A_.mk (F_ (g := ab) (o := .cells #[.int .u64 aa, .int .u64 ad] 77 (0, 0)) (by refine kB ?_; exact ac.out) hb); have ai := A_.mk (E_ (by exact lB HB.out) hb); have aj := A_.mk (hbox); have ak := A_.mk ((by rw [hg]; exact (G_ (by exact lB HB.out)) : w.heap.size ≤ ae)); have aC := A_.mk ((by rw [hg]; exact (G_ (by exact lB HB.out)) : w.heap.size ≤ ae)); have aD := A_.mk ((by rw [hg]; exact Nat.ne_of_lt (M_ (g := ab) (o := .cells #[.int .u64 aa, .int .u64 ad] 77 (0, 0)) (by refine kB ?_; exact ac.out)) : ab ≠ ae)); have aE := A_.mk ((by rw [hg]; exact Nat.ne_of_gt (M_ (g := ab) (o := .cells #[.int .u64 aa, .int .u64 ad] 77 (0, 0)) (by refine kB ?_; exact ac.out)) : ae ≠ ab)); clear ac; clear HB; have ac := ah; have HB := ai; have af := aj; have aJ := ak; have az := aC; have al := aD; have am := aE; clear ah ai aj ak aC aD aE; clear hb hbox hg; have bf := al.out; have bg := am.out; have aT : aH.cell? ⟨ab, 0, none⟩ = some (.int .u64 aa) := (D_ ac.out 0).trans rfl; have aU : aH.cell? ⟨ab, 1, none⟩ = some (.int .u64 ad) := (D_ ac.out 1).trans rfl; have aV := B_ ac.out 0; have aW := B_ ac.out 1; have aX : aH.cell? ⟨ae, 0, none⟩ = some (.int .u64 0) := (D_ af.out 0).trans rfl; have aY : aH.cell? ⟨ae, 1, none⟩ = some (.int .u64 0) := (D_ af.out 1).trans rfl; have aZ := B_ af.out 0; have a0 := B_ af.out 1))
    refine bodyPost_ret (results_cell_row rfl _ _ ae 77 #[.int .u64 an, .int .u64 (Go.bits .or .u64 (au) (aB))] (0, 0) _ rfl (by refine kB ?_; refine L_ (cs := #[.int .u64 an, .int .u64 0]) ?_ 1 _ rfl; refine kB ?_; refine L_ (cs := #[.int .u64 0, .int .u64 0]) ?_ 0 _ rfl; refine kB ?_; exact af.out) Tryd.underlying77 rfl (by kernel_rfl)) rfl ?_
    exact ⟨by first | rfl | (simp [errW_none, errW_some] <;> rfl) | (simp only [← ap, ← aq, ← aA, ← ar]; first | rfl | (simp [errW_none, errW_some] <;> rfl)) | (simp [*, errW_none, errW_some] <;> rfl), by exact lB HB.out⟩
   ·rw [if_neg c17] at H
    exact absurd H (by simp)
  ·rw [if_neg c12] at H
   exact absurd H (by simp)

end Go.Proofs.YtjcgmjhcaaaieaaDoor.Pr
