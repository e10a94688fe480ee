-- printed by a program of this session's (wip/mp.sh), out of the translation; the texts of its folder 'given' are typed by hand
-- shortened (wip/short.py)
import Derived.Test.YtjcgmjhcaaaieaaDoorPr0
import Derived.Test.YtjcgmjhcaaaieaaDoorPr3
import Derived.Test.YtjcgmjhcaaaieaaDoorPr17
import Derived.Test.YtjcgmjhcaaaieaaDoorPr20
import Derived.Test.YtjcgmjhcaaaieaaDoorPr22
import Derived.Test.YtjcgmjhcaaaieaaDoorPr24
namespace Go.Proofs.YtjcgmjhcaaaieaaDoor.Pr
open Go.RowKit Go.Proofs.YtjcgmjhcaaaieaaDoorW.PrintWords Go.Proofs.YtjcgmjhcaaaieaaDoorW.PrintLast Go.Proofs.YtjcgmjhcaaaieaaDoorW.PrintMore
attribute [local go_sem] max2_int min2_int max_two min_two max_three min_three max_four min_four   -- for this text's walks alone
attribute [local go_sem high] eqA32
set_option linter.unusedVariables false
set_option linter.unusedSimpArgs false

attribute [local go_sem high] eqA77
/-! ### ratio_common: function 33 -/
def ratio_common.l0 : Nat → Int → Int → Int → Int → Int → Option (Int × Int)
 | 0, _, _, _, _, _ => none
 | k + 1, x5, aR, aS, aY, aZ => if (!(aY == 0) || (!(aZ == 0))) = true then ((ratio_twos.f aY aZ).bind fun aT => ((wide_Shift.f k aY aZ (wrap64 (-aT))).bind fun aF => ((wide_Cmp.f k aR aS aF.1 aF.2.1).bind fun aO => (if aO > 0 then ((wide_Sub.f aR aS aF.1 aF.2.1).bind fun aI => (ratio_common.l0 k x5 aF.1 aF.2.1 aI.1 aI.2.1)) else ((wide_Sub.f aF.1 aF.2.1 aR aS).bind fun aJ => (ratio_common.l0 k x5 aR aS aJ.1 aJ.2.1)))))) else ((wide_Shift.f k aR aS x5).bind fun bj => (some (bj.1, bj.2.1)))
def ratio_common.f (k : Nat) (aj : Int) (ak : Int) (av : Int) (aw : Int) : Option (Int × Int) := if (aj == 0 && (ak == 0)) = true then (some (av, aw)) else (if (av == 0 && (aw == 0)) = true then (some (aj, ak)) else ((ratio_twos.f aj ak).bind fun aQ => ((ratio_twos.f av aw).bind fun aP => ((ratio_twos.f aj ak).bind fun aK => ((wide_Shift.f k aj ak (wrap64 (-aK))).bind fun aG => (ratio_common.l0 k (mn aQ aP) aG.1 aG.2.1 av aw))))))
theorem ratio_common.mono_l : ∀ k, (∀ y0 y1 y2 y3 y4, LeO (ratio_common.l0 k y0 y1 y2 y3 y4) (ratio_common.l0 (k + 1) y0 y1 y2 y3 y4))
 | 0 => fun _ _ _ _ _ r h => by simp [ratio_common.l0] at h
 | k + 1 => by
  have ih0 := ratio_common.mono_l k
  ·intro y0 y1 y2 y3 y4
   unfold ratio_common.l0
   repeat' first
   | (with_reducible exact ih0 _ _ _ _ _)
   | (with_reducible exact wide_Cmp.mono _ _ _ _ _)
   | (with_reducible exact wide_Shift.mono _ _ _ _)
   | (with_reducible exact LeO.refl _)
   | (with_reducible exact LeO.none _)
   | (with_reducible refine LeO.ite ?_ ?_)
   | (with_reducible refine LeO.bind ?_ (fun _ => ?_))
   | exact ih0 _ _ _ _ _
   | exact wide_Cmp.mono _ _ _ _ _
   | exact wide_Shift.mono _ _ _ _
   | exact LeO.none _
   | refine LeO.ite ?_ ?_
   | refine LeO.bind ?_ (fun _ => ?_)
theorem ratio_common.mono : ∀ a0 a1 a2 a3 k, LeO (ratio_common.f k a0 a1 a2 a3) (ratio_common.f (k + 1) a0 a1 a2 a3) := by
 intro a0 a1 a2 a3 k
 have ih0 := ratio_common.mono_l k
 unfold ratio_common.f
 repeat' first
   | (with_reducible exact ih0 _ _ _ _ _)
   | (with_reducible exact wide_Cmp.mono _ _ _ _ _)
   | (with_reducible exact wide_Shift.mono _ _ _ _)
   | (with_reducible exact LeO.refl _)
   | (with_reducible exact LeO.none _)
   | (with_reducible refine LeO.ite ?_ ?_)
   | (with_reducible refine LeO.bind ?_ (fun _ => ?_))
   | exact ih0 _ _ _ _ _
   | exact wide_Cmp.mono _ _ _ _ _
   | exact wide_Shift.mono _ _ _ _
   | exact LeO.none _
   | refine LeO.ite ?_ ?_
   | refine LeO.bind ?_ (fun _ => ?_)
def ratio_common.T6 : Bool × List (List Nat × List Nat) := (true, [([], []), ([], []), ([1], [1]), ([2], [2]), ([0, 3, 2], [0, 3]), ([4], [4]), ([5], [5]), ([5], [5]), ([6, 4, 0, 1, 2, 3, 4, 5, 6], [6])])
def ratio_common.B6 : List Nat := [0, 0, 2, 6, 15, 31, 63, 63, 127]
theorem ratio_common.tab6 : rtab .any (opsOf Tryd.f33 6) = ratio_common.T6 := by kernel_rfl
theorem ratio_common.bits6 : waitsOk ratio_common.T6.2 ratio_common.B6 = true := by kernel_rfl
def ratio_common.T8 : Bool × List (List Nat × List Nat) := (true, [([], []), ([], []), ([1], [1]), ([2], [2]), ([0, 3, 2], [0, 3]), ([4], [4]), ([5], [5]), ([5], [5]), ([6, 4, 0, 1, 2, 3, 4, 5, 6], [6])])
def ratio_common.B8 : List Nat := [0, 0, 2, 6, 15, 31, 63, 63, 127]
theorem ratio_common.tab8 : rtab .any (opsOf Tryd.f33 8) = ratio_common.T8 := by kernel_rfl
theorem ratio_common.bits8 : waitsOk ratio_common.T8.2 ratio_common.B8 = true := by kernel_rfl
set_option maxHeartbeats 8000000 in
set_option maxRecDepth 100000 in
theorem ratio_common.calls (k : Nat) (aj : Int) (ak : Int) (av : Int) (aw : Int) (r1 : Int) (r2 : Int) (w : World) (h : ratio_common.f k aj ak av aw = some (r1, r2)) (hTab : HasTab w) :
  Calls Tryd.prog 33 #[.agg #[.int .u64 aj, .int .u64 ak], .agg #[.int .u64 av, .int .u64 aw]] w fun e w' => e = .returned (.agg #[.int .u64 r1, .int .u64 r2]) ∧ Below w.heap.size w w' := by
 have et := Tryd.underlying77
 have HB := A_.mk (Below.refl w.heap.size w)
 have H : (if (aj == 0 && (ak == 0)) = true then (some (av, aw)) else (if (av == 0 && (aw == 0)) = true then (some (aj, ak)) else ((ratio_twos.f aj ak).bind fun aQ => ((ratio_twos.f av aw).bind fun aP => ((ratio_twos.f aj ak).bind fun aK => ((wide_Shift.f k aj ak (wrap64 (-aK))).bind fun aG => (ratio_common.l0 k (mn aQ aP) aG.1 aG.2.1 av aw))))))) = some (r1, r2) := h
 clear h
 by_cases c3 : (aj == 0 && (ak == 0)) = true
 ·rw [if_pos c3] at H
  have bX : (aj == 0 && (ak == 0)) = true := c3
  (try (have bY : decide (aj = 0 && (ak == 0)) = true := by simpa using c3))
  (try (have bZ : (aj == 0 && (ak == 0)) = true := by simpa using c3))
  clear c3
  simp only [Option.some.injEq, Prod.mk.injEq] at H
  obtain ⟨rfl, rfl⟩ := H
  go_enter Tryd.func33, Tryd.ntmps33
  go_wp2_with (first | ((with_reducible refine O_ (N := 2) rfl ?_); refine N_ ?hg (N := 2) ?hd (cs := #[.int .u64 aj, .int .u64 ak]) (t := 77) ?hr ?_; (case hd => rfl); (case hg => rfl); (case hr => first | (go_simp; done) | (go_simp; rfl)); intro af hg w4 hbox hb; have al := A_.mk (E_ (by exact lB HB.out) hb); have am := A_.mk (hbox); have an := A_.mk ((by rw [hg]; exact (G_ (by exact lB HB.out)) : w.heap.size ≤ af)); have ao := A_.mk ((by rw [hg]; exact (G_ (by exact lB HB.out)) : w.heap.size ≤ af)); clear HB; have HB := al; have ab := am; have bk := an; have ap := ao; clear al am an ao; clear hb hbox hg) | ((with_reducible refine O_ (N := 3) rfl ?_); refine N_ ?hg (N := 3) ?hd (cs := #[.int .u64 av, .int .u64 aw]) (t := 77) ?hr ?_; (case hd => rfl); (case hg => rfl); (case hr => first | (go_simp; done) | (go_simp; rfl)); intro ae hg w5 hbox hb; have al := A_.mk (F_ (g := af) (o := .cells #[.int .u64 aj, .int .u64 ak] 77 (0, 0)) (by refine kB ?_; exact ab.out) hb); have am := A_.mk (E_ (by exact lB HB.out) hb); have an := A_.mk (hbox); have ao := A_.mk ((by rw [hg]; exact (G_ (by exact lB HB.out)) : w.heap.size ≤ ae)); have aL := A_.mk ((by rw [hg]; exact (G_ (by exact lB HB.out)) : w.heap.size ≤ ae)); have aM := A_.mk ((by rw [hg]; exact Nat.ne_of_lt (M_ (g := af) (o := .cells #[.int .u64 aj, .int .u64 ak] 77 (0, 0)) (by refine kB ?_; exact ab.out)) : af ≠ ae)); have aN := A_.mk ((by rw [hg]; exact Nat.ne_of_gt (M_ (g := af) (o := .cells #[.int .u64 aj, .int .u64 ak] 77 (0, 0)) (by refine kB ?_; exact ab.out)) : ae ≠ af)); clear ab; clear HB; have ab := al; have HB := am; have aa := an; have bl := ao; have ax := aL; have aq := aM; have ay := aN; clear al am an ao aL aM aN; clear hb hbox hg) | ((with_reducible refine O_ (N := 4) rfl ?_); refine N_ ?hg (N := 4) ?hd (cs := #[.int .u64 0, .int .u64 0]) (t := 77) ?hr ?_; (case hd => rfl); (case hg => rfl); (case hr => first | (go_simp; done) | (go_simp; rfl)); intro ar hg w6 hbox hb; have al := A_.mk (F_ (g := af) (o := .cells #[.int .u64 aj, .int .u64 ak] 77 (0, 0)) (by refine kB ?_; exact ab.out) hb); have am := A_.mk (F_ (g := ae) (o := .cells #[.int .u64 av, .int .u64 aw] 77 (0, 0)) (by refine kB ?_; exact aa.out) hb); have an := A_.mk (E_ (by exact lB HB.out) hb); have ao := A_.mk (hbox); have aL := A_.mk ((by rw [hg]; exact (G_ (by exact lB HB.out)) : w.heap.size ≤ ar)); have aM := A_.mk ((by rw [hg]; exact (G_ (by exact lB HB.out)) : w.heap.size ≤ ar)); have aN := A_.mk ((by rw [hg]; exact Nat.ne_of_lt (M_ (g := af) (o := .cells #[.int .u64 aj, .int .u64 ak] 77 (0, 0)) (by refine kB ?_; exact ab.out)) : af ≠ ar)); have a4 := A_.mk ((by rw [hg]; exact Nat.ne_of_gt (M_ (g := af) (o := .cells #[.int .u64 aj, .int .u64 ak] 77 (0, 0)) (by refine kB ?_; exact ab.out)) : ar ≠ af)); have a5 := A_.mk ((by rw [hg]; exact Nat.ne_of_lt (M_ (g := ae) (o := .cells #[.int .u64 av, .int .u64 aw] 77 (0, 0)) (by refine kB ?_; exact aa.out)) : ae ≠ ar)); have a6 := A_.mk ((by rw [hg]; exact Nat.ne_of_gt (M_ (g := ae) (o := .cells #[.int .u64 av, .int .u64 aw] 77 (0, 0)) (by refine kB ?_; exact aa.out)) : ar ≠ ae)); clear ab; clear aa; clear HB; have ab := al; have aa := am; have HB := an; have ag := ao; have bm := aL; have aA := aM; have aE := aN; have az := a4; have aD := a5; have au := a6; clear al am an ao aL aM aN a4 a5 a6; clear hb hbox hg; have eu := aq.out; have ev := ay.out; have ew := aE.out; have ex := az.out; have b0 : w6.cell? ⟨af, 0, none⟩ = some (.int .u64 aj) := (D_ ab.out 0).trans rfl; have b1 : w6.cell? ⟨af, 1, none⟩ = some (.int .u64 ak) := (D_ ab.out 1).trans rfl; have b2 := B_ ab.out 0; have b3 := B_ ab.out 1; have dQ := aD.out; have dR := au.out; have bu : w6.cell? ⟨ae, 0, none⟩ = some (.int .u64 av) := (D_ aa.out 0).trans rfl; have bv : w6.cell? ⟨ae, 1, none⟩ = some (.int .u64 aw) := (D_ aa.out 1).trans rfl; have bw := B_ aa.out 0; have bx := B_ aa.out 1; have bz : w6.cell? ⟨ar, 0, none⟩ = some (.int .u64 0) := (D_ ag.out 0).trans rfl; have bA : w6.cell? ⟨ar, 1, none⟩ = some (.int .u64 0) := (D_ ag.out 1).trans rfl; have bB := B_ ag.out 0; have bC := B_ ag.out 1))
  refine bodyPost_ret (results_cell_row rfl _ _ ar 77 #[.int .u64 av, .int .u64 aw] (0, 0) _ rfl (by refine kB ?_; refine L_ (cs := #[.int .u64 av, .int .u64 0]) ?_ 1 _ rfl; refine kB ?_; refine L_ (cs := #[.int .u64 0, .int .u64 0]) ?_ 0 _ rfl; refine kB ?_; exact ag.out) Tryd.underlying77 rfl (by kernel_rfl)) rfl ?_
  exact ⟨by first | rfl | (simp [errW_none, errW_some] <;> rfl) | (simp [*, errW_none, errW_some] <;> rfl), by exact lB HB.out⟩
 ·rw [if_neg c3] at H
  have bX : (aj == 0 && (ak == 0)) = false := by simpa using c3
  (try (have bY : decide (aj = 0 && (ak == 0)) = false := by simpa using c3))
  (try (have bZ : (aj == 0 && (ak == 0)) = false := by simpa using c3))
  (try (have ey : ¬ (aj = 0 && (ak == 0)) := by simpa using c3))
  clear c3
  by_cases c13 : (av == 0 && (aw == 0)) = true
  ·rw [if_pos c13] at H
   have bn : (av == 0 && (aw == 0)) = true := c13
   (try (have bo : decide (av = 0 && (aw == 0)) = true := by simpa using c13))
   (try (have bp : (av == 0 && (aw == 0)) = true := by simpa using c13))
   clear c13
   simp only [Option.some.injEq, Prod.mk.injEq] at H
   obtain ⟨rfl, rfl⟩ := H
   go_enter Tryd.func33, Tryd.ntmps33
   go_wp2_with (first | ((with_reducible refine O_ (N := 2) rfl ?_); refine N_ ?hg (N := 2) ?hd (cs := #[.int .u64 aj, .int .u64 ak]) (t := 77) ?hr ?_; (case hd => rfl); (case hg => rfl); (case hr => first | (go_simp; done) | (go_simp; rfl)); intro af hg eF hbox hb; have al := A_.mk (E_ (by exact lB HB.out) hb); have am := A_.mk (hbox); have an := A_.mk ((by rw [hg]; exact (G_ (by exact lB HB.out)) : w.heap.size ≤ af)); have ao := A_.mk ((by rw [hg]; exact (G_ (by exact lB HB.out)) : w.heap.size ≤ af)); clear HB; have HB := al; have ab := am; have bk := an; have ap := ao; clear al am an ao; clear hb hbox hg) | ((with_reducible refine O_ (N := 3) rfl ?_); refine N_ ?hg (N := 3) ?hd (cs := #[.int .u64 av, .int .u64 aw]) (t := 77) ?hr ?_; (case hd => rfl); (case hg => rfl); (case hr => first | (go_simp; done) | (go_simp; rfl)); intro ae hg eG hbox hb; have al := A_.mk (F_ (g := af) (o := .cells #[.int .u64 aj, .int .u64 ak] 77 (0, 0)) (by refine kB ?_; exact ab.out) hb); have am := A_.mk (E_ (by exact lB HB.out) hb); have an := A_.mk (hbox); have ao := A_.mk ((by rw [hg]; exact (G_ (by exact lB HB.out)) : w.heap.size ≤ ae)); have aL := A_.mk ((by rw [hg]; exact (G_ (by exact lB HB.out)) : w.heap.size ≤ ae)); have aM := A_.mk ((by rw [hg]; exact Nat.ne_of_lt (M_ (g := af) (o := .cells #[.int .u64 aj, .int .u64 ak] 77 (0, 0)) (by refine kB ?_; exact ab.out)) : af ≠ ae)); have aN := A_.mk ((by rw [hg]; exact Nat.ne_of_gt (M_ (g := af) (o := .cells #[.int .u64 aj, .int .u64 ak] 77 (0, 0)) (by refine kB ?_; exact ab.out)) : ae ≠ af)); clear ab; clear HB; have ab := al; have HB := am; have aa := an; have bl := ao; have ax := aL; have aq := aM; have ay := aN; clear al am an ao aL aM aN; clear hb hbox hg) | ((with_reducible refine O_ (N := 4) rfl ?_); refine N_ ?hg (N := 4) ?hd (cs := #[.int .u64 0, .int .u64 0]) (t := 77) ?hr ?_; (case hd => rfl); (case hg => rfl); (case hr => first | (go_simp; done) | (go_simp; rfl)); intro ar hg a7 hbox hb; have al := A_.mk (F_ (g := af) (o := .cells #[.int .u64 aj, .int .u64 ak] 77 (0, 0)) (by refine kB ?_; exact ab.out) hb); have am := A_.mk (F_ (g := ae) (o := .cells #[.int .u64 av, .int .u64 aw] 77 (0, 0)) (by refine kB ?_; exact aa.out) hb); have an := A_.mk (E_ (by exact lB HB.out) hb); have ao := A_.mk (hbox); have aL := A_.mk ((by rw [hg]; exact (G_ (by exact lB HB.out)) : w.heap.size ≤ ar)); have aM := A_.mk ((by rw [hg]; exact (G_ (by exact lB HB.out)) : w.heap.size ≤ ar)); have aN := A_.mk ((by rw [hg]; exact Nat.ne_of_lt (M_ (g := af) (o := .cells #[.int .u64 aj, .int .u64 ak] 77 (0, 0)) (by refine kB ?_; exact ab.out)) : af ≠ ar)); have a4 := A_.mk ((by rw [hg]; exact Nat.ne_of_gt (M_ (g := af) (o := .cells #[.int .u64 aj, .int .u64 ak] 77 (0, 0)) (by refine kB ?_; exact ab.out)) : ar ≠ af)); have a5 := A_.mk ((by rw [hg]; exact Nat.ne_of_lt (M_ (g := ae) (o := .cells #[.int .u64 av, .int .u64 aw] 77 (0, 0)) (by refine kB ?_; exact aa.out)) : ae ≠ ar)); have a6 := A_.mk ((by rw [hg]; exact Nat.ne_of_gt (M_ (g := ae) (o := .cells #[.int .u64 av, .int .u64 aw] 77 (0, 0)) (by refine kB ?_; exact aa.out)) : ar ≠ ae)); clear ab; clear aa; clear HB; have ab := al; have aa := am; have HB := an; have ag := ao; have bm := aL; have aA := aM; have aE := aN; have az := a4; have aD := a5; have au := a6; clear al am an ao aL aM aN a4 a5 a6; clear hb hbox hg; have dS := aq.out; have dT := ay.out; have dU := aE.out; have dV := az.out; have bD : a7.cell? ⟨af, 0, none⟩ = some (.int .u64 aj) := (D_ ab.out 0).trans rfl; have bE : a7.cell? ⟨af, 1, none⟩ = some (.int .u64 ak) := (D_ ab.out 1).trans rfl; have bF := B_ ab.out 0; have bG := B_ ab.out 1; have dW := aD.out; have dX := au.out; have bH : a7.cell? ⟨ae, 0, none⟩ = some (.int .u64 av) := (D_ aa.out 0).trans rfl; have bI : a7.cell? ⟨ae, 1, none⟩ = some (.int .u64 aw) := (D_ aa.out 1).trans rfl; have bJ := B_ aa.out 0; have bK := B_ aa.out 1; have bL : a7.cell? ⟨ar, 0, none⟩ = some (.int .u64 0) := (D_ ag.out 0).trans rfl; have bM : a7.cell? ⟨ar, 1, none⟩ = some (.int .u64 0) := (D_ ag.out 1).trans rfl; have bN := B_ ag.out 0; have bO := B_ ag.out 1))
   refine bodyPost_ret (results_cell_row rfl _ _ ar 77 #[.int .u64 aj, .int .u64 ak] (0, 0) _ rfl (by refine kB ?_; refine L_ (cs := #[.int .u64 aj, .int .u64 0]) ?_ 1 _ rfl; refine kB ?_; refine L_ (cs := #[.int .u64 0, .int .u64 0]) ?_ 0 _ rfl; refine kB ?_; exact ag.out) Tryd.underlying77 rfl (by kernel_rfl)) rfl ?_
   exact ⟨by first | rfl | (simp [errW_none, errW_some] <;> rfl) | (simp [*, errW_none, errW_some] <;> rfl), by exact lB HB.out⟩
  ·rw [if_neg c13] at H
   have bn : (av == 0 && (aw == 0)) = false := by simpa using c13
   (try (have bo : decide (av = 0 && (aw == 0)) = false := by simpa using c13))
   (try (have bp : (av == 0 && (aw == 0)) = false := by simpa using c13))
   (try (have dY : ¬ (av = 0 && (aw == 0)) := by simpa using c13))
   clear c13
   replace H := Option.bind_eq_some_iff.mp H
   obtain ⟨aQ, A230, H⟩ := H
   replace H : ((ratio_twos.f av aw).bind fun aP => ((ratio_twos.f aj ak).bind fun aK => ((wide_Shift.f k aj ak (wrap64 (-aK))).bind fun aG => (ratio_common.l0 k (mn aQ aP) aG.1 aG.2.1 av aw)))) = some (r1, r2) := H
   have A23 := A_.mk A230
   clear A230
   replace H := Option.bind_eq_some_iff.mp H
   obtain ⟨aP, A240, H⟩ := H
   replace H : ((ratio_twos.f aj ak).bind fun aK => ((wide_Shift.f k aj ak (wrap64 (-aK))).bind fun aG => (ratio_common.l0 k (mn aQ aP) aG.1 aG.2.1 av aw))) = some (r1, r2) := H
   have A24 := A_.mk A240
   clear A240
   obtain ⟨aH, aU⟩ : ∃ j_ : Int, (mn aQ aP) = j_ := ⟨_, rfl⟩
   replace H : ((ratio_twos.f aj ak).bind fun aK => ((wide_Shift.f k aj ak (wrap64 (-aK))).bind fun aG => (ratio_common.l0 k aH aG.1 aG.2.1 av aw))) = some (r1, r2) := by first | (rw [aU] at H; exact H) | (simp only [aU] at H ⊢; exact H)
   (try rw [aU] at A23)
   (try rw [aU] at A24)
   have dO : (if aP < aQ then aP else aQ) = aH := aU
   replace H := Option.bind_eq_some_iff.mp H
   obtain ⟨aK, A260, H⟩ := H
   replace H : ((wide_Shift.f k aj ak (wrap64 (-aK))).bind fun aG => (ratio_common.l0 k aH aG.1 aG.2.1 av aw)) = some (r1, r2) := H
   have A26 := A_.mk A260
   clear A260
   replace H := Option.bind_eq_some_iff.mp H
   obtain ⟨⟨ba, bf, cb⟩, A270, H⟩ := H
   replace H : (ratio_common.l0 k aH ba bf av aw) = some (r1, r2) := H
   have A27 := A_.mk A270
   clear A270
   have H' := A_.mk H
   clear H
   go_enter Tryd.func33, Tryd.ntmps33
   try go_wp2_with (first | ((with_reducible refine O_ (N := 2) rfl ?_); refine N_ ?hg (N := 2) ?hd (cs := #[.int .u64 aj, .int .u64 ak]) (t := 77) ?hr ?_; (case hd => rfl); (case hg => rfl); (case hr => first | (go_simp; done) | (go_simp; rfl)); intro af hg eH hbox hb; have al := A_.mk (E_ (by exact lB HB.out) hb); have am := A_.mk (hbox); have an := A_.mk ((by rw [hg]; exact (G_ (by exact lB HB.out)) : w.heap.size ≤ af)); have ao := A_.mk ((by rw [hg]; exact (G_ (by exact lB HB.out)) : w.heap.size ≤ af)); clear HB; have HB := al; have ab := am; have bk := an; have ap := ao; clear al am an ao; clear hb hbox hg) | ((with_reducible refine O_ (N := 3) rfl ?_); refine N_ ?hg (N := 3) ?hd (cs := #[.int .u64 av, .int .u64 aw]) (t := 77) ?hr ?_; (case hd => rfl); (case hg => rfl); (case hr => first | (go_simp; done) | (go_simp; rfl)); intro ae hg eI hbox hb; have al := A_.mk (F_ (g := af) (o := .cells #[.int .u64 aj, .int .u64 ak] 77 (0, 0)) (by refine kB ?_; exact ab.out) hb); have am := A_.mk (E_ (by exact lB HB.out) hb); have an := A_.mk (hbox); have ao := A_.mk ((by rw [hg]; exact (G_ (by exact lB HB.out)) : w.heap.size ≤ ae)); have aL := A_.mk ((by rw [hg]; exact (G_ (by exact lB HB.out)) : w.heap.size ≤ ae)); have aM := A_.mk ((by rw [hg]; exact Nat.ne_of_lt (M_ (g := af) (o := .cells #[.int .u64 aj, .int .u64 ak] 77 (0, 0)) (by refine kB ?_; exact ab.out)) : af ≠ ae)); have aN := A_.mk ((by rw [hg]; exact Nat.ne_of_gt (M_ (g := af) (o := .cells #[.int .u64 aj, .int .u64 ak] 77 (0, 0)) (by refine kB ?_; exact ab.out)) : ae ≠ af)); clear ab; clear HB; have ab := al; have HB := am; have aa := an; have bl := ao; have ax := aL; have aq := aM; have ay := aN; clear al am an ao aL aM aN; clear hb hbox hg) | ((with_reducible refine O_ (N := 4) rfl ?_); refine N_ ?hg (N := 4) ?hd (cs := #[.int .u64 0, .int .u64 0]) (t := 77) ?hr ?_; (case hd => rfl); (case hg => rfl); (case hr => first | (go_simp; done) | (go_simp; rfl)); intro ar hg be hbox hb; have al := A_.mk (F_ (g := af) (o := .cells #[.int .u64 aj, .int .u64 ak] 77 (0, 0)) (by refine kB ?_; exact ab.out) hb); have am := A_.mk (F_ (g := ae) (o := .cells #[.int .u64 av, .int .u64 aw] 77 (0, 0)) (by refine kB ?_; exact aa.out) hb); have an := A_.mk (E_ (by exact lB HB.out) hb); have ao := A_.mk (hbox); have aL := A_.mk ((by rw [hg]; exact (G_ (by exact lB HB.out)) : w.heap.size ≤ ar)); have aM := A_.mk ((by rw [hg]; exact (G_ (by exact lB HB.out)) : w.heap.size ≤ ar)); have aN := A_.mk ((by rw [hg]; exact Nat.ne_of_lt (M_ (g := af) (o := .cells #[.int .u64 aj, .int .u64 ak] 77 (0, 0)) (by refine kB ?_; exact ab.out)) : af ≠ ar)); have a4 := A_.mk ((by rw [hg]; exact Nat.ne_of_gt (M_ (g := af) (o := .cells #[.int .u64 aj, .int .u64 ak] 77 (0, 0)) (by refine kB ?_; exact ab.out)) : ar ≠ af)); have a5 := A_.mk ((by rw [hg]; exact Nat.ne_of_lt (M_ (g := ae) (o := .cells #[.int .u64 av, .int .u64 aw] 77 (0, 0)) (by refine kB ?_; exact aa.out)) : ae ≠ ar)); have a6 := A_.mk ((by rw [hg]; exact Nat.ne_of_gt (M_ (g := ae) (o := .cells #[.int .u64 av, .int .u64 aw] 77 (0, 0)) (by refine kB ?_; exact aa.out)) : ar ≠ ae)); clear ab; clear aa; clear HB; have ab := al; have aa := am; have HB := an; have ag := ao; have bm := aL; have aA := aM; have aE := aN; have az := a4; have aD := a5; have au := a6; clear al am an ao aL aM aN a4 a5 a6; clear hb hbox hg; have dZ := aq.out; have d0 := ay.out; have d1 := aE.out; have d2 := az.out; have bP : be.cell? ⟨af, 0, none⟩ = some (.int .u64 aj) := (D_ ab.out 0).trans rfl; have bQ : be.cell? ⟨af, 1, none⟩ = some (.int .u64 ak) := (D_ ab.out 1).trans rfl; have bR := B_ ab.out 0; have bS := B_ ab.out 1; have d3 := aD.out; have d4 := au.out; have bT : be.cell? ⟨ae, 0, none⟩ = some (.int .u64 av) := (D_ aa.out 0).trans rfl; have bU : be.cell? ⟨ae, 1, none⟩ = some (.int .u64 aw) := (D_ aa.out 1).trans rfl; have bV := B_ aa.out 0; have bW := B_ aa.out 1))
   have al := A_.mk (Y_ ab.out)
   have am := A_.mk (Y_ aa.out)
   have an := A_.mk (Y_ ag.out)
   have ao := A_.mk (T_ HB.out)
   clear ab
   clear aa
   clear ag
   clear HB
   have ab := al
   have aa := am
   have ag := an
   have HB := ao
   clear al am an ao
   refine start_ (n := 6) (S := fun w' => w'.cell? ⟨af, 0, none⟩ = some (.int .u64 aj) ∧ w'.cell? ⟨af, 1, none⟩ = some (.int .u64 ak) ∧ w'.cell? ⟨ae, 0, none⟩ = some (.int .u64 av) ∧ w'.cell? ⟨ae, 1, none⟩ = some (.int .u64 aw)) (ds := []) #[false, false, false, false, false, false] (by kernel_rfl) rfl rfl ⟨(D_ ab.out 0).trans rfl, (D_ ab.out 1).trans rfl, (D_ aa.out 0).trans rfl, (D_ aa.out 1).trans rfl⟩ (fun hHeld => ?_)
   generalize be.drew = eJ at ab aa ag HB hHeld ⊢
   refine take_ (i := 0) (N := some 14) (v := ?_) (a' := ?_) #[true, false, false, false, false, false] rfl rfl (by kernel_rfl) (fun _ _ _ h => h) (Or.inl ⟨by rfl, ?_⟩) hHeld ?_ ?_
   rotate_left
   ·rintro w' ⟨s0, s1, s2, s3⟩
    go_simp
    with_reducible rfl
   rotate_left
   ·exact pA
   refine take_ (i := 2) (N := some 16) (v := ?_) (a' := ?_) #[true, false, true, false, false, false] rfl rfl (by kernel_rfl) (fun _ _ _ h => h) (Or.inl ⟨by rfl, ?_⟩) hHeld ?_ ?_
   rotate_left
   ·rintro w' ⟨s0, s1, s2, s3⟩
    go_simp
    with_reducible rfl
   rotate_left
   ·exact pA
   refine one_ (i := 1) (N := some 15) #[true, true, true, false, false, false] rfl rfl (by kernel_rfl) (by decide) (fun K hK => ?_)
   refine goes_ Tryd.func42 (by kernel_rfl) rfl #[.agg #[.int .u64 aj, .int .u64 ak]] (by rfl) rfl rfl (by (try simp only [List.map_toArray, List.map_cons, List.map_nil]); first | done | rfl | (simp only [List.length_drop, List.length_take]; rfl)) ?_
   with_reducible refine (ratio_twos.calls aj ak aQ _ A23.out (hTab.below (by exact lB HB.out))).mono ?_
   rintro e eK ⟨rfl, hb⟩
   refine ⟨_, rfl, ?_⟩
   have al := A_.mk (F_ (g := af) (o := .cells #[.int .u64 aj, .int .u64 ak] 77 (0, 0)) (by refine kB ?_; exact ab.out) hb)
   have am := A_.mk (F_ (g := ae) (o := .cells #[.int .u64 av, .int .u64 aw] 77 (0, 0)) (by refine kB ?_; exact aa.out) hb)
   have an := A_.mk (F_ (g := ar) (o := .cells #[.int .u64 0, .int .u64 0] 77 (0, 0)) (by refine kB ?_; exact ag.out) hb)
   have ao := A_.mk (E_ (by exact lB HB.out) hb)
   clear ab
   clear aa
   clear ag
   clear HB
   have ab := al
   have aa := am
   have ag := an
   have HB := ao
   clear al am an ao
   (try clear hb)
   (try clear aV)
   (try clear hk)
   (try clear hi)
   refine hK.out _ _ ⟨(D_ ab.out 0).trans rfl, (D_ ab.out 1).trans rfl, (D_ aa.out 0).trans rfl, (D_ aa.out 1).trans rfl⟩ (fun hHeld => ?_)
   clear hK K
   refine norm_ (a' := ?_) ?_ ?_
   rotate_left
   ·show Act.put _ (some 15) _ = _
    exact pA
   refine one_ (i := 3) (N := some 17) #[true, true, true, true, false, false] rfl rfl (by kernel_rfl) (by decide) (fun K hK => ?_)
   refine goes_ Tryd.func42 (by kernel_rfl) rfl #[.agg #[.int .u64 av, .int .u64 aw]] (by rfl) rfl rfl (by (try simp only [List.map_toArray, List.map_cons, List.map_nil]); first | done | rfl | (simp only [List.length_drop, List.length_take]; rfl)) ?_
   with_reducible refine (ratio_twos.calls av aw aP _ A24.out (hTab.below (by exact lB HB.out))).mono ?_
   rintro e dP ⟨rfl, hb⟩
   refine ⟨_, rfl, ?_⟩
   have al := A_.mk (F_ (g := af) (o := .cells #[.int .u64 aj, .int .u64 ak] 77 (0, 0)) (by refine kB ?_; exact ab.out) hb)
   have am := A_.mk (F_ (g := ae) (o := .cells #[.int .u64 av, .int .u64 aw] 77 (0, 0)) (by refine kB ?_; exact aa.out) hb)
   have an := A_.mk (F_ (g := ar) (o := .cells #[.int .u64 0, .int .u64 0] 77 (0, 0)) (by refine kB ?_; exact ag.out) hb)
   have ao := A_.mk (E_ (by exact lB HB.out) hb)
   clear ab
   clear aa
   clear ag
   clear HB
   have ab := al
   have aa := am
   have ag := an
   have HB := ao
   clear al am an ao
   (try clear hb)
   (try clear aV)
   (try clear hk)
   (try clear hi)
   refine hK.out _ _ ⟨(D_ ab.out 0).trans rfl, (D_ ab.out 1).trans rfl, (D_ aa.out 0).trans rfl, (D_ aa.out 1).trans rfl⟩ (fun hHeld => ?_)
   clear hK K
   refine norm_ (a' := ?_) ?_ ?_
   rotate_left
   ·show Act.put _ (some 17) _ = _
    exact pA
   refine pure_ (i := 4) (N := some 18) (v := ?_) (a' := ?_) #[true, true, true, true, true, false] rfl rfl (by kernel_rfl) (fun _ _ _ h => h) (Or.inl ⟨by rfl, ?_⟩) ?_ ?_
   rotate_left
   ·intro w'
    go_simp
    with_reducible rfl
   rotate_left
   ·exact pA
   refine pure_ (i := 5) (N := some 5) (v := ?_) (a' := ?_) #[true, true, true, true, true, true] rfl rfl (by kernel_rfl) (fun _ _ _ h => h) (Or.inl ⟨by rfl, ?_⟩) ?_ ?_
   rotate_left
   ·intro w'
    go_simp
    with_reducible rfl
   rotate_left
   ·exact pA
   refine done_ (by kernel_rfl) ?_
   try go_wp2
   have al := A_.mk (Y_ ab.out)
   have am := A_.mk (Y_ aa.out)
   have an := A_.mk (Y_ ag.out)
   have ao := A_.mk (T_ HB.out)
   clear ab
   clear aa
   clear ag
   clear HB
   have ab := al
   have aa := am
   have ag := an
   have HB := ao
   clear al am an ao
   refine start_ (n := 9) (S := fun w' => w'.cell? ⟨af, 0, none⟩ = some (.int .u64 aj) ∧ w'.cell? ⟨af, 1, none⟩ = some (.int .u64 ak)) (ds := [8]) #[false, false, false, false, false, false, false, false, false] (by kernel_rfl) rfl rfl ⟨(D_ ab.out 0).trans rfl, (D_ ab.out 1).trans rfl⟩ (fun hHeld => ?_); refine with_tabW ratio_common.tab6 ratio_common.bits6 (fun HT_ HW_ => ?_)
   generalize dP.drew = eL at ab aa ag HB hHeld ⊢
   refine take_ (i := 0) (N := some 20) (v := ?_) (a' := ?_) #[true, false, false, false, false, false, false, false, false] rfl rfl (B1_ HT_.out HW_.out (by kernel_rfl)) (fun _ _ _ h => h) (Or.inl ⟨by rfl, ?_⟩) hHeld ?_ ?_
   rotate_left
   ·rintro w' ⟨s0, s1⟩
    go_simp
    with_reducible rfl
   rotate_left
   ·exact pA
   refine take_ (i := 1) (N := some 21) (v := ?_) (a' := ?_) #[true, true, false, false, false, false, false, false, false] rfl rfl (B1_ HT_.out HW_.out (by kernel_rfl)) (fun _ _ _ h => h) (Or.inl ⟨by rfl, ?_⟩) hHeld ?_ ?_
   rotate_left
   ·rintro w' ⟨s0, s1⟩
    go_simp
    with_reducible rfl
   rotate_left
   ·exact pA
   refine one_ (i := 2) (N := some 22) #[true, true, true, false, false, false, false, false, false] rfl rfl (one_of HT_.out (by kernel_rfl)) (by decide) (fun K hK => ?_)
   refine goes_ Tryd.func42 (by kernel_rfl) rfl #[.agg #[.int .u64 aj, .int .u64 ak]] (by rfl) rfl rfl (by (try simp only [List.map_toArray, List.map_cons, List.map_nil]); first | done | rfl | (simp only [List.length_drop, List.length_take]; rfl)) ?_
   with_reducible refine (ratio_twos.calls aj ak aK _ A26.out (hTab.below (by exact lB HB.out))).mono ?_
   rintro e eM ⟨rfl, hb⟩
   refine ⟨_, rfl, ?_⟩
   have al := A_.mk (F_ (g := af) (o := .cells #[.int .u64 aj, .int .u64 ak] 77 (0, 0)) (by refine kB ?_; exact ab.out) hb)
   have am := A_.mk (F_ (g := ae) (o := .cells #[.int .u64 av, .int .u64 aw] 77 (0, 0)) (by refine kB ?_; exact aa.out) hb)
   have an := A_.mk (F_ (g := ar) (o := .cells #[.int .u64 0, .int .u64 0] 77 (0, 0)) (by refine kB ?_; exact ag.out) hb)
   have ao := A_.mk (E_ (by exact lB HB.out) hb)
   clear ab
   clear aa
   clear ag
   clear HB
   have ab := al
   have aa := am
   have ag := an
   have HB := ao
   clear al am an ao
   (try clear hb)
   (try clear aV)
   (try clear hk)
   (try clear hi)
   refine hK.out _ _ ⟨(D_ ab.out 0).trans rfl, (D_ ab.out 1).trans rfl⟩ (fun hHeld => ?_)
   clear hK K
   refine norm_ (a' := ?_) ?_ ?_
   rotate_left
   ·show Act.put _ (some 22) _ = _
    exact pA
   refine pure_ (i := 3) (N := some 23) (v := ?_) (a' := ?_) #[true, true, true, true, false, false, false, false, false] rfl rfl (A1_ HT_.out (by kernel_rfl)) (fun _ _ _ h => h) (Or.inl ⟨by rfl, ?_⟩) ?_ ?_
   rotate_left
   ·intro w'
    go_simp
    with_reducible rfl
   rotate_left
   ·exact pA
   refine one_ (i := 4) (N := some 24) #[true, true, true, true, true, false, false, false, false] rfl rfl (one_of HT_.out (by kernel_rfl)) (by decide) (fun K hK => ?_)
   refine goes_ Tryd.func43 (by kernel_rfl) rfl #[.agg #[.int .u64 aj, .int .u64 ak], .int .i64 (wrap64 (-aK))] (by rfl) rfl rfl (by (try simp only [List.map_toArray, List.map_cons, List.map_nil]); first | done | rfl | (simp only [List.length_drop, List.length_take]; rfl)) ?_
   with_reducible refine (wide_Shift.calls k aj ak (wrap64 (-aK)) ba bf cb _ A27.out).mono ?_
   rintro e b7 ⟨rfl, hb⟩
   refine ⟨_, rfl, ?_⟩
   have al := A_.mk (F_ (g := af) (o := .cells #[.int .u64 aj, .int .u64 ak] 77 (0, 0)) (by refine kB ?_; exact ab.out) hb)
   have am := A_.mk (F_ (g := ae) (o := .cells #[.int .u64 av, .int .u64 aw] 77 (0, 0)) (by refine kB ?_; exact aa.out) hb)
   have an := A_.mk (F_ (g := ar) (o := .cells #[.int .u64 0, .int .u64 0] 77 (0, 0)) (by refine kB ?_; exact ag.out) hb)
   have ao := A_.mk (E_ (by exact lB HB.out) hb)
   clear ab
   clear aa
   clear ag
   clear HB
   have ab := al
   have aa := am
   have ag := an
   have HB := ao
   clear al am an ao
   (try clear hb)
   (try clear aV)
   (try clear hk)
   (try clear hi)
   refine hK.out _ _ ⟨(D_ ab.out 0).trans rfl, (D_ ab.out 1).trans rfl⟩ (fun hHeld => ?_)
   clear hK K
   refine norm_ (a' := ?_) ?_ ?_
   rotate_left
   ·show Act.put _ (some 24) _ = _
    exact pA
   refine pure_ (i := 5) (N := some 19) (v := ?_) (a' := ?_) #[true, true, true, true, true, true, false, false, false] rfl rfl (A1_ HT_.out (by kernel_rfl)) (fun _ _ _ h => h) (Or.inl ⟨by rfl, ?_⟩) ?_ ?_
   rotate_left
   ·intro w'
    go_simp
    with_reducible rfl
   rotate_left
   ·exact pA
   refine pure_ (i := 6) (N := some 25) (v := ?_) (a' := ?_) #[true, true, true, true, true, true, true, false, false] rfl rfl (A1_ HT_.out (by kernel_rfl)) (fun _ _ _ h => h) (Or.inl ⟨by rfl, ?_⟩) ?_ ?_
   rotate_left
   ·intro w'
    go_simp
    with_reducible rfl
   rotate_left
   ·exact pA
   refine pure_ (i := 7) (N := some 26) (v := ?_) (a' := ?_) #[true, true, true, true, true, true, true, true, false] rfl rfl (A1_ HT_.out (by kernel_rfl)) (fun _ _ _ h => h) (Or.inl ⟨by rfl, ?_⟩) ?_ ?_
   rotate_left
   ·intro w'
    go_simp
    with_reducible rfl
   rotate_left
   ·exact pA
   refine last_ (i := 8) (N := none) #[true, true, true, true, true, true, true, true, true] rfl rfl (one_of HT_.out (by kernel_rfl)) (by decide) (fun K hK => ?_)
   have ez : b7.cell? ⟨af, 0, none⟩ = some (.int .u64 aj) := (D_ ab.out 0).trans rfl
   have d5 := B_ ab.out 0
   have cf := ay.out
   have cg := az.out
   have ch := aq.out
   have ci := aE.out
   have eA : b7.cell? ⟨af, 1, none⟩ = some (.int .u64 ak) := (D_ ab.out 1).trans rfl
   have d6 := B_ ab.out 1
   have cj := ay.out
   have ck := az.out
   have cl := aq.out
   have cm := aE.out
   refine skip_ (w1 := ?_) (by rfl) rfl ?_ ?_
   rotate_left
   ·go_simp
    rfl
   refine hK.out _ _ ?_
   clear hK K
   refine done_ (done_of HT_.out (by kernel_rfl)) ?_
   try go_wp2
   go_loopg [] k (fun kq w' => ∃ (ad : Int) (ac : Int) (ai : Int) (ah : Int), A_ (ratio_common.l0 kq aH ad ac ai ah = some (r1, r2)) ∧ A_ (kq ≤ k) ∧ A_ (w'.heap[af]? = some (.cells #[.int .u64 ad, .int .u64 ac] 77 (0, 0))) ∧ A_ (w'.heap[ae]? = some (.cells #[.int .u64 ai, .int .u64 ah] 77 (0, 0))) ∧ A_ (w'.heap[ar]? = some (.cells #[.int .u64 0, .int .u64 0] 77 (0, 0))) ∧ A_ (Below w.heap.size w w'))
   case atStart => exact ⟨(ba), (bf), (av), (aw), H', ⟨Nat.le_refl _⟩, ⟨by refine kB ?_; refine L_ (cs := #[.int .u64 ba, .int .u64 ak]) ?_ 1 _ rfl; refine kB ?_; refine L_ (cs := #[.int .u64 aj, .int .u64 ak]) ?_ 0 _ rfl; refine kB ?_; exact ab.out⟩, ⟨by refine kB ?_; refine J_ ?_ ay.out _; refine kB ?_; refine J_ ?_ ay.out _; refine kB ?_; exact aa.out⟩, ⟨by refine kB ?_; refine J_ ?_ az.out _; refine kB ?_; refine J_ ?_ az.out _; refine kB ?_; exact ag.out⟩, ⟨by exact lB HB.out⟩⟩
   case round =>
    clear H'
    try clear c1
    try clear c2
    try clear p2
    try clear c3
    try clear bX
    try clear bY
    try clear bZ
    try clear c4
    try clear p6
    try clear c7
    try clear c8
    try clear c10
    try clear c13
    try clear bn
    try clear bo
    try clear bp
    try clear c17
    try clear c18
    try clear c20
    try clear c31
    try clear c32
    try clear c33
    try clear c34
    try clear c42
    try clear c43
    try clear bu
    try clear bv
    try clear bz
    try clear bA
    try clear bD
    try clear bE
    try clear bH
    try clear bI
    try clear bL
    try clear bM
    try clear bP
    try clear bQ
    try clear bT
    try clear bU
    try clear b0
    try clear b1
    try clear bw
    try clear bx
    try clear bB
    try clear bC
    try clear bF
    try clear bG
    try clear bJ
    try clear bK
    try clear bN
    try clear bO
    try clear bR
    try clear bS
    try clear bV
    try clear bW
    try clear b2
    try clear b3
    obtain ⟨ad, ac, ai, ah, HA, HK1, ab, aa, ag, HB⟩ := hrel
    cases gk with
    | zero => exact absurd HA.out (by simp [ratio_common.l0])
    | succ k1 =>
     have H := HA.out
     clear HA
     simp only [ratio_common.l0] at H
     by_cases c44 : (!(ai == 0) || (!(ah == 0))) = true
     ·rw [if_pos c44] at H
      have b5 : (!(ai == 0) || (!(ah == 0))) = true := c44
      clear c44
      replace H := Option.bind_eq_some_iff.mp H
      obtain ⟨aT, A450, H⟩ := H
      replace H : ((wide_Shift.f k1 ai ah (wrap64 (-aT))).bind fun aF => ((wide_Cmp.f k1 ad ac aF.1 aF.2.1).bind fun aO => (if aO > 0 then ((wide_Sub.f ad ac aF.1 aF.2.1).bind fun aI => (ratio_common.l0 k1 aH aF.1 aF.2.1 aI.1 aI.2.1)) else ((wide_Sub.f aF.1 aF.2.1 ad ac).bind fun aJ => (ratio_common.l0 k1 aH ad ac aJ.1 aJ.2.1))))) = some (r1, r2) := H
      have A45 := A_.mk A450
      clear A450
      replace H := Option.bind_eq_some_iff.mp H
      obtain ⟨⟨aB, aC, b4⟩, A460, H⟩ := H
      replace H : ((wide_Cmp.f k1 ad ac aB aC).bind fun aO => (if aO > 0 then ((wide_Sub.f ad ac aB aC).bind fun aI => (ratio_common.l0 k1 aH aB aC aI.1 aI.2.1)) else ((wide_Sub.f aB aC ad ac).bind fun aJ => (ratio_common.l0 k1 aH ad ac aJ.1 aJ.2.1)))) = some (r1, r2) := H
      have A46 := A_.mk A460
      clear A460
      replace H := Option.bind_eq_some_iff.mp H
      obtain ⟨aO, A470, H⟩ := H
      replace H : (if aO > 0 then ((wide_Sub.f ad ac aB aC).bind fun aI => (ratio_common.l0 k1 aH aB aC aI.1 aI.2.1)) else ((wide_Sub.f aB aC ad ac).bind fun aJ => (ratio_common.l0 k1 aH ad ac aJ.1 aJ.2.1))) = some (r1, r2) := H
      have A47 := A_.mk A470
      clear A470
      by_cases c48 : aO > 0
      ·rw [if_pos c48] at H
       have b6 : decide (0 < aO) = true := decide_eq_true c48
       clear c48
       replace H := Option.bind_eq_some_iff.mp H
       obtain ⟨⟨bb, bg, cc⟩, A490, H⟩ := H
       replace H : (ratio_common.l0 k1 aH aB aC bb bg) = some (r1, r2) := H
       have A49 := A_.mk A490
       clear A490
       have H' := A_.mk H
       clear H
       have d7 := ay.out
       have d8 := aq.out
       have d9 := aD.out
       have ea := au.out
       have cn : wr.cell? ⟨ae, 0, none⟩ = some (.int .u64 ai) := (D_ aa.out 0).trans rfl
       have co : wr.cell? ⟨ae, 1, none⟩ = some (.int .u64 ah) := (D_ aa.out 1).trans rfl
       have cp := B_ aa.out 0
       have cq := B_ aa.out 1
       try go_wp2
       have al := A_.mk (Y_ ab.out)
       have am := A_.mk (Y_ aa.out)
       have an := A_.mk (Y_ ag.out)
       have ao := A_.mk (T_ HB.out)
       clear ab
       clear aa
       clear ag
       clear HB
       have ab := al
       have aa := am
       have ag := an
       have HB := ao
       clear al am an ao
       refine start_ (n := 9) (S := fun w' => w'.cell? ⟨ae, 0, none⟩ = some (.int .u64 ai) ∧ w'.cell? ⟨ae, 1, none⟩ = some (.int .u64 ah)) (ds := [8]) #[false, false, false, false, false, false, false, false, false] (by kernel_rfl) rfl rfl ⟨(D_ aa.out 0).trans rfl, (D_ aa.out 1).trans rfl⟩ (fun hHeld => ?_); refine with_tabW ratio_common.tab8 ratio_common.bits8 (fun HT_ HW_ => ?_)
       generalize wr.drew = eN at ab aa ag HB hHeld ⊢
       refine take_ (i := 0) (N := some 31) (v := ?_) (a' := ?_) #[true, false, false, false, false, false, false, false, false] rfl rfl (B1_ HT_.out HW_.out (by kernel_rfl)) (fun _ _ _ h => h) (Or.inl ⟨by rfl, ?_⟩) hHeld ?_ ?_
       rotate_left
       ·rintro w' ⟨s0, s1⟩
        go_simp
        with_reducible rfl
       rotate_left
       ·exact pA
       refine take_ (i := 1) (N := some 32) (v := ?_) (a' := ?_) #[true, true, false, false, false, false, false, false, false] rfl rfl (B1_ HT_.out HW_.out (by kernel_rfl)) (fun _ _ _ h => h) (Or.inl ⟨by rfl, ?_⟩) hHeld ?_ ?_
       rotate_left
       ·rintro w' ⟨s0, s1⟩
        go_simp
        with_reducible rfl
       rotate_left
       ·exact pA
       refine one_ (i := 2) (N := some 33) #[true, true, true, false, false, false, false, false, false] rfl rfl (one_of HT_.out (by kernel_rfl)) (by decide) (fun K hK => ?_)
       refine goes_ Tryd.func42 (by kernel_rfl) rfl #[.agg #[.int .u64 ai, .int .u64 ah]] (by rfl) rfl rfl (by (try simp only [List.map_toArray, List.map_cons, List.map_nil]); first | done | rfl | (simp only [List.length_drop, List.length_take]; rfl)) ?_
       with_reducible refine (ratio_twos.calls ai ah aT _ A45.out (hTab.below (by exact lB HB.out))).mono ?_
       rintro e eO ⟨rfl, hb⟩
       refine ⟨_, rfl, ?_⟩
       have al := A_.mk (F_ (g := af) (o := .cells #[.int .u64 ad, .int .u64 ac] 77 (0, 0)) (by refine kB ?_; exact ab.out) hb)
       have am := A_.mk (F_ (g := ae) (o := .cells #[.int .u64 ai, .int .u64 ah] 77 (0, 0)) (by refine kB ?_; exact aa.out) hb)
       have an := A_.mk (F_ (g := ar) (o := .cells #[.int .u64 0, .int .u64 0] 77 (0, 0)) (by refine kB ?_; exact ag.out) hb)
       have ao := A_.mk (E_ (by exact lB HB.out) hb)
       clear ab
       clear aa
       clear ag
       clear HB
       have ab := al
       have aa := am
       have ag := an
       have HB := ao
       clear al am an ao
       (try clear hb)
       (try clear aV)
       (try clear hk)
       (try clear hi)
       refine hK.out _ _ ⟨(D_ aa.out 0).trans rfl, (D_ aa.out 1).trans rfl⟩ (fun hHeld => ?_)
       clear hK K
       refine norm_ (a' := ?_) ?_ ?_
       rotate_left
       ·show Act.put _ (some 33) _ = _
        exact pA
       refine pure_ (i := 3) (N := some 34) (v := ?_) (a' := ?_) #[true, true, true, true, false, false, false, false, false] rfl rfl (A1_ HT_.out (by kernel_rfl)) (fun _ _ _ h => h) (Or.inl ⟨by rfl, ?_⟩) ?_ ?_
       rotate_left
       ·intro w'
        go_simp
        with_reducible rfl
       rotate_left
       ·exact pA
       refine one_ (i := 4) (N := some 35) #[true, true, true, true, true, false, false, false, false] rfl rfl (one_of HT_.out (by kernel_rfl)) (by decide) (fun K hK => ?_)
       refine goes_ Tryd.func43 (by kernel_rfl) rfl #[.agg #[.int .u64 ai, .int .u64 ah], .int .i64 (wrap64 (-aT))] (by rfl) rfl rfl (by (try simp only [List.map_toArray, List.map_cons, List.map_nil]); first | done | rfl | (simp only [List.length_drop, List.length_take]; rfl)) ?_
       with_reducible refine (wide_Shift.calls k1 ai ah (wrap64 (-aT)) aB aC b4 _ A46.out).mono ?_
       rintro e a8 ⟨rfl, hb⟩
       refine ⟨_, rfl, ?_⟩
       have al := A_.mk (F_ (g := af) (o := .cells #[.int .u64 ad, .int .u64 ac] 77 (0, 0)) (by refine kB ?_; exact ab.out) hb)
       have am := A_.mk (F_ (g := ae) (o := .cells #[.int .u64 ai, .int .u64 ah] 77 (0, 0)) (by refine kB ?_; exact aa.out) hb)
       have an := A_.mk (F_ (g := ar) (o := .cells #[.int .u64 0, .int .u64 0] 77 (0, 0)) (by refine kB ?_; exact ag.out) hb)
       have ao := A_.mk (E_ (by exact lB HB.out) hb)
       clear ab
       clear aa
       clear ag
       clear HB
       have ab := al
       have aa := am
       have ag := an
       have HB := ao
       clear al am an ao
       (try clear hb)
       (try clear aV)
       (try clear hk)
       (try clear hi)
       refine hK.out _ _ ⟨(D_ aa.out 0).trans rfl, (D_ aa.out 1).trans rfl⟩ (fun hHeld => ?_)
       clear hK K
       refine norm_ (a' := ?_) ?_ ?_
       rotate_left
       ·show Act.put _ (some 35) _ = _
        exact pA
       refine pure_ (i := 5) (N := some 30) (v := ?_) (a' := ?_) #[true, true, true, true, true, true, false, false, false] rfl rfl (A1_ HT_.out (by kernel_rfl)) (fun _ _ _ h => h) (Or.inl ⟨by rfl, ?_⟩) ?_ ?_
       rotate_left
       ·intro w'
        go_simp
        with_reducible rfl
       rotate_left
       ·exact pA
       refine pure_ (i := 6) (N := some 36) (v := ?_) (a' := ?_) #[true, true, true, true, true, true, true, false, false] rfl rfl (A1_ HT_.out (by kernel_rfl)) (fun _ _ _ h => h) (Or.inl ⟨by rfl, ?_⟩) ?_ ?_
       rotate_left
       ·intro w'
        go_simp
        with_reducible rfl
       rotate_left
       ·exact pA
       refine pure_ (i := 7) (N := some 37) (v := ?_) (a' := ?_) #[true, true, true, true, true, true, true, true, false] rfl rfl (A1_ HT_.out (by kernel_rfl)) (fun _ _ _ h => h) (Or.inl ⟨by rfl, ?_⟩) ?_ ?_
       rotate_left
       ·intro w'
        go_simp
        with_reducible rfl
       rotate_left
       ·exact pA
       refine last_ (i := 8) (N := none) #[true, true, true, true, true, true, true, true, true] rfl rfl (one_of HT_.out (by kernel_rfl)) (by decide) (fun K hK => ?_)
       have eB : a8.cell? ⟨ae, 0, none⟩ = some (.int .u64 ai) := (D_ aa.out 0).trans rfl
       have eb := B_ aa.out 0
       have cr := aq.out
       have ct := au.out
       have cu := ay.out
       have cv := aD.out
       have eC : a8.cell? ⟨ae, 1, none⟩ = some (.int .u64 ah) := (D_ aa.out 1).trans rfl
       have ec := B_ aa.out 1
       have cw := aq.out
       have cx := au.out
       have cy := ay.out
       have cz := aD.out
       refine skip_ (w1 := ?_) (by rfl) rfl ?_ ?_
       rotate_left
       ·go_simp
        rfl
       refine hK.out _ _ ?_
       clear hK K
       refine done_ (done_of HT_.out (by kernel_rfl)) ?_
       have ed := aE.out
       have ee := az.out
       have cA : a8.cell? ⟨af, 0, none⟩ = some (.int .u64 ad) := (D_ ab.out 0).trans rfl
       have cB : a8.cell? ⟨af, 1, none⟩ = some (.int .u64 ac) := (D_ ab.out 1).trans rfl
       have cC := B_ ab.out 0
       have cD := B_ ab.out 1
       have cE : a8.cell? ⟨ae, 0, none⟩ = some (.int .u64 ai) := (D_ aa.out 0).trans rfl
       have cF : a8.cell? ⟨ae, 1, none⟩ = some (.int .u64 ah) := (D_ aa.out 1).trans rfl
       have cG := B_ aa.out 0
       have cH := B_ aa.out 1
       try go_wp2_with (first | ((with_reducible refine P_ (f := 44) rfl ?_); refine R_ (some 40) rfl rfl Tryd.func44 (by kernel_rfl) rfl #[.agg #[.int .u64 ad, .int .u64 ac], .agg #[.int .u64 aB, .int .u64 aC]] rfl (by (try simp only [List.map_toArray, List.map_cons, List.map_nil]); first | done | rfl | (simp only [List.length_drop, List.length_take]; rfl)) ?_; (with_reducible refine (wide_Cmp.calls k1 ad ac aB aC aO _ A47.out).mono ?_); rintro e bq ⟨rfl, hb⟩; refine ⟨_, rfl, ?_⟩; have al := A_.mk (F_ (g := af) (o := .cells #[.int .u64 ad, .int .u64 ac] 77 (0, 0)) (by refine kB ?_; refine J_ ?_ aq.out _; refine kB ?_; refine J_ ?_ aq.out _; refine kB ?_; exact ab.out) hb); have am := A_.mk (F_ (g := ae) (o := .cells #[.int .u64 aB, .int .u64 aC] 77 (0, 0)) (by refine kB ?_; refine L_ (cs := #[.int .u64 aB, .int .u64 ah]) ?_ 1 _ rfl; refine kB ?_; refine L_ (cs := #[.int .u64 ai, .int .u64 ah]) ?_ 0 _ rfl; refine kB ?_; exact aa.out) hb); have an := A_.mk (F_ (g := ar) (o := .cells #[.int .u64 0, .int .u64 0] 77 (0, 0)) (by refine kB ?_; refine J_ ?_ au.out _; refine kB ?_; refine J_ ?_ au.out _; refine kB ?_; exact ag.out) hb); have ao := A_.mk (E_ (by exact lB HB.out) hb); clear ab; clear aa; clear ag; clear HB; have ab := al; have aa := am; have ag := an; have HB := ao; clear al am an ao; (try clear hb); (try clear aV); (try clear hk); (try clear hi); have cI : bq.cell? ⟨ae, 0, none⟩ = some (.int .u64 aB) := (D_ aa.out 0).trans rfl; have cJ : bq.cell? ⟨ae, 1, none⟩ = some (.int .u64 aC) := (D_ aa.out 1).trans rfl; have cK := B_ aa.out 0; have cL := B_ aa.out 1; have cM : bq.cell? ⟨af, 0, none⟩ = some (.int .u64 ad) := (D_ ab.out 0).trans rfl; have cN : bq.cell? ⟨af, 1, none⟩ = some (.int .u64 ac) := (D_ ab.out 1).trans rfl; have cO := B_ ab.out 0; have cP := B_ ab.out 1) | ((with_reducible refine P_ (f := 45) rfl ?_); refine R_ (some 47) rfl rfl Tryd.func45 (by kernel_rfl) rfl #[.agg #[.int .u64 ad, .int .u64 ac], .agg #[.int .u64 aB, .int .u64 aC]] rfl (by (try simp only [List.map_toArray, List.map_cons, List.map_nil]); first | done | rfl | (simp only [List.length_drop, List.length_take]; rfl)) ?_; (with_reducible refine (wide_Sub.calls ad ac aB aC bb bg cc _ A49.out).mono ?_); rintro e b8 ⟨rfl, hb⟩; refine ⟨_, rfl, ?_⟩; have al := A_.mk (F_ (g := af) (o := .cells #[.int .u64 aB, .int .u64 aC] 77 (0, 0)) (by refine kB ?_; refine J_ ?_ aq.out _; refine kB ?_; refine J_ ?_ aq.out _; refine kB ?_; refine L_ (cs := #[.int .u64 aB, .int .u64 ac]) ?_ 1 _ rfl; refine kB ?_; refine L_ (cs := #[.int .u64 ad, .int .u64 ac]) ?_ 0 _ rfl; refine kB ?_; exact ab.out) hb); have am := A_.mk (F_ (g := ae) (o := .cells #[.int .u64 ad, .int .u64 ac] 77 (0, 0)) (by refine kB ?_; refine L_ (cs := #[.int .u64 ad, .int .u64 aC]) ?_ 1 _ rfl; refine kB ?_; refine L_ (cs := #[.int .u64 aB, .int .u64 aC]) ?_ 0 _ rfl; refine kB ?_; refine J_ ?_ ay.out _; refine kB ?_; refine J_ ?_ ay.out _; refine kB ?_; exact aa.out) hb); have an := A_.mk (F_ (g := ar) (o := .cells #[.int .u64 0, .int .u64 0] 77 (0, 0)) (by refine kB ?_; refine J_ ?_ au.out _; refine kB ?_; refine J_ ?_ au.out _; refine kB ?_; refine J_ ?_ az.out _; refine kB ?_; refine J_ ?_ az.out _; refine kB ?_; exact ag.out) hb); have ao := A_.mk (E_ (by exact lB HB.out) hb); clear ab; clear aa; clear ag; clear HB; have ab := al; have aa := am; have ag := an; have HB := ao; clear al am an ao; (try clear hb); (try clear aV); (try clear hk); (try clear hi); have cQ : b8.cell? ⟨ae, 0, none⟩ = some (.int .u64 ad) := (D_ aa.out 0).trans rfl; have cR : b8.cell? ⟨ae, 1, none⟩ = some (.int .u64 ac) := (D_ aa.out 1).trans rfl; have cS := B_ aa.out 0; have cT := B_ aa.out 1))
       go_roundg k1
       case measure => have := HK1.out; omega
       case rel => exact ⟨(aB), (aC), (bb), (bg), H', ⟨by have := HK1.out; omega⟩, ⟨by refine kB ?_; refine J_ ?_ aq.out _; refine kB ?_; refine J_ ?_ aq.out _; refine kB ?_; exact ab.out⟩, ⟨by refine kB ?_; refine L_ (cs := #[.int .u64 bb, .int .u64 ac]) ?_ 1 _ rfl; refine kB ?_; refine L_ (cs := #[.int .u64 ad, .int .u64 ac]) ?_ 0 _ rfl; refine kB ?_; exact aa.out⟩, ⟨by refine kB ?_; refine J_ ?_ au.out _; refine kB ?_; refine J_ ?_ au.out _; refine kB ?_; exact ag.out⟩, ⟨by exact lB HB.out⟩⟩
      ·rw [if_neg c48] at H
       have b6 : decide (0 < aO) = false := decide_eq_false c48
       clear c48
       replace H := Option.bind_eq_some_iff.mp H
       obtain ⟨⟨bc, bh, cd⟩, A660, H⟩ := H
       replace H : (ratio_common.l0 k1 aH ad ac bc bh) = some (r1, r2) := H
       have A66 := A_.mk A660
       clear A660
       have H' := A_.mk H
       clear H
       have ef := ay.out
       have eg := aq.out
       have eh := aD.out
       have ei := au.out
       have cU : wr.cell? ⟨ae, 0, none⟩ = some (.int .u64 ai) := (D_ aa.out 0).trans rfl
       have cV : wr.cell? ⟨ae, 1, none⟩ = some (.int .u64 ah) := (D_ aa.out 1).trans rfl
       have cW := B_ aa.out 0
       have cX := B_ aa.out 1
       try go_wp2
       have al := A_.mk (Y_ ab.out)
       have am := A_.mk (Y_ aa.out)
       have an := A_.mk (Y_ ag.out)
       have ao := A_.mk (T_ HB.out)
       clear ab
       clear aa
       clear ag
       clear HB
       have ab := al
       have aa := am
       have ag := an
       have HB := ao
       clear al am an ao
       refine start_ (n := 9) (S := fun w' => w'.cell? ⟨ae, 0, none⟩ = some (.int .u64 ai) ∧ w'.cell? ⟨ae, 1, none⟩ = some (.int .u64 ah)) (ds := [8]) #[false, false, false, false, false, false, false, false, false] (by kernel_rfl) rfl rfl ⟨(D_ aa.out 0).trans rfl, (D_ aa.out 1).trans rfl⟩ (fun hHeld => ?_); refine with_tabW ratio_common.tab8 ratio_common.bits8 (fun HT_ HW_ => ?_)
       generalize wr.drew = eP at ab aa ag HB hHeld ⊢
       refine take_ (i := 0) (N := some 31) (v := ?_) (a' := ?_) #[true, false, false, false, false, false, false, false, false] rfl rfl (B1_ HT_.out HW_.out (by kernel_rfl)) (fun _ _ _ h => h) (Or.inl ⟨by rfl, ?_⟩) hHeld ?_ ?_
       rotate_left
       ·rintro w' ⟨s0, s1⟩
        go_simp
        with_reducible rfl
       rotate_left
       ·exact pA
       refine take_ (i := 1) (N := some 32) (v := ?_) (a' := ?_) #[true, true, false, false, false, false, false, false, false] rfl rfl (B1_ HT_.out HW_.out (by kernel_rfl)) (fun _ _ _ h => h) (Or.inl ⟨by rfl, ?_⟩) hHeld ?_ ?_
       rotate_left
       ·rintro w' ⟨s0, s1⟩
        go_simp
        with_reducible rfl
       rotate_left
       ·exact pA
       refine one_ (i := 2) (N := some 33) #[true, true, true, false, false, false, false, false, false] rfl rfl (one_of HT_.out (by kernel_rfl)) (by decide) (fun K hK => ?_)
       refine goes_ Tryd.func42 (by kernel_rfl) rfl #[.agg #[.int .u64 ai, .int .u64 ah]] (by rfl) rfl rfl (by (try simp only [List.map_toArray, List.map_cons, List.map_nil]); first | done | rfl | (simp only [List.length_drop, List.length_take]; rfl)) ?_
       with_reducible refine (ratio_twos.calls ai ah aT _ A45.out (hTab.below (by exact lB HB.out))).mono ?_
       rintro e eQ ⟨rfl, hb⟩
       refine ⟨_, rfl, ?_⟩
       have al := A_.mk (F_ (g := af) (o := .cells #[.int .u64 ad, .int .u64 ac] 77 (0, 0)) (by refine kB ?_; exact ab.out) hb)
       have am := A_.mk (F_ (g := ae) (o := .cells #[.int .u64 ai, .int .u64 ah] 77 (0, 0)) (by refine kB ?_; exact aa.out) hb)
       have an := A_.mk (F_ (g := ar) (o := .cells #[.int .u64 0, .int .u64 0] 77 (0, 0)) (by refine kB ?_; exact ag.out) hb)
       have ao := A_.mk (E_ (by exact lB HB.out) hb)
       clear ab
       clear aa
       clear ag
       clear HB
       have ab := al
       have aa := am
       have ag := an
       have HB := ao
       clear al am an ao
       (try clear hb)
       (try clear aV)
       (try clear hk)
       (try clear hi)
       refine hK.out _ _ ⟨(D_ aa.out 0).trans rfl, (D_ aa.out 1).trans rfl⟩ (fun hHeld => ?_)
       clear hK K
       refine norm_ (a' := ?_) ?_ ?_
       rotate_left
       ·show Act.put _ (some 33) _ = _
        exact pA
       refine pure_ (i := 3) (N := some 34) (v := ?_) (a' := ?_) #[true, true, true, true, false, false, false, false, false] rfl rfl (A1_ HT_.out (by kernel_rfl)) (fun _ _ _ h => h) (Or.inl ⟨by rfl, ?_⟩) ?_ ?_
       rotate_left
       ·intro w'
        go_simp
        with_reducible rfl
       rotate_left
       ·exact pA
       refine one_ (i := 4) (N := some 35) #[true, true, true, true, true, false, false, false, false] rfl rfl (one_of HT_.out (by kernel_rfl)) (by decide) (fun K hK => ?_)
       refine goes_ Tryd.func43 (by kernel_rfl) rfl #[.agg #[.int .u64 ai, .int .u64 ah], .int .i64 (wrap64 (-aT))] (by rfl) rfl rfl (by (try simp only [List.map_toArray, List.map_cons, List.map_nil]); first | done | rfl | (simp only [List.length_drop, List.length_take]; rfl)) ?_
       with_reducible refine (wide_Shift.calls k1 ai ah (wrap64 (-aT)) aB aC b4 _ A46.out).mono ?_
       rintro e a9 ⟨rfl, hb⟩
       refine ⟨_, rfl, ?_⟩
       have al := A_.mk (F_ (g := af) (o := .cells #[.int .u64 ad, .int .u64 ac] 77 (0, 0)) (by refine kB ?_; exact ab.out) hb)
       have am := A_.mk (F_ (g := ae) (o := .cells #[.int .u64 ai, .int .u64 ah] 77 (0, 0)) (by refine kB ?_; exact aa.out) hb)
       have an := A_.mk (F_ (g := ar) (o := .cells #[.int .u64 0, .int .u64 0] 77 (0, 0)) (by refine kB ?_; exact ag.out) hb)
       have ao := A_.mk (E_ (by exact lB HB.out) hb)
       clear ab
       clear aa
       clear ag
       clear HB
       have ab := al
       have aa := am
       have ag := an
       have HB := ao
       clear al am an ao
       (try clear hb)
       (try clear aV)
       (try clear hk)
       (try clear hi)
       refine hK.out _ _ ⟨(D_ aa.out 0).trans rfl, (D_ aa.out 1).trans rfl⟩ (fun hHeld => ?_)
       clear hK K
       refine norm_ (a' := ?_) ?_ ?_
       rotate_left
       ·show Act.put _ (some 35) _ = _
        exact pA
       refine pure_ (i := 5) (N := some 30) (v := ?_) (a' := ?_) #[true, true, true, true, true, true, false, false, false] rfl rfl (A1_ HT_.out (by kernel_rfl)) (fun _ _ _ h => h) (Or.inl ⟨by rfl, ?_⟩) ?_ ?_
       rotate_left
       ·intro w'
        go_simp
        with_reducible rfl
       rotate_left
       ·exact pA
       refine pure_ (i := 6) (N := some 36) (v := ?_) (a' := ?_) #[true, true, true, true, true, true, true, false, false] rfl rfl (A1_ HT_.out (by kernel_rfl)) (fun _ _ _ h => h) (Or.inl ⟨by rfl, ?_⟩) ?_ ?_
       rotate_left
       ·intro w'
        go_simp
        with_reducible rfl
       rotate_left
       ·exact pA
       refine pure_ (i := 7) (N := some 37) (v := ?_) (a' := ?_) #[true, true, true, true, true, true, true, true, false] rfl rfl (A1_ HT_.out (by kernel_rfl)) (fun _ _ _ h => h) (Or.inl ⟨by rfl, ?_⟩) ?_ ?_
       rotate_left
       ·intro w'
        go_simp
        with_reducible rfl
       rotate_left
       ·exact pA
       refine last_ (i := 8) (N := none) #[true, true, true, true, true, true, true, true, true] rfl rfl (one_of HT_.out (by kernel_rfl)) (by decide) (fun K hK => ?_)
       have eD : a9.cell? ⟨ae, 0, none⟩ = some (.int .u64 ai) := (D_ aa.out 0).trans rfl
       have ej := B_ aa.out 0
       have cY := aq.out
       have cZ := au.out
       have c0 := ay.out
       have c5 := aD.out
       have eE : a9.cell? ⟨ae, 1, none⟩ = some (.int .u64 ah) := (D_ aa.out 1).trans rfl
       have ek := B_ aa.out 1
       have c6 := aq.out
       have c9 := au.out
       have da := ay.out
       have db := aD.out
       refine skip_ (w1 := ?_) (by rfl) rfl ?_ ?_
       rotate_left
       ·go_simp
        rfl
       refine hK.out _ _ ?_
       clear hK K
       refine done_ (done_of HT_.out (by kernel_rfl)) ?_
       have el := aE.out
       have em := az.out
       have dc : a9.cell? ⟨af, 0, none⟩ = some (.int .u64 ad) := (D_ ab.out 0).trans rfl
       have dd : a9.cell? ⟨af, 1, none⟩ = some (.int .u64 ac) := (D_ ab.out 1).trans rfl
       have de := B_ ab.out 0
       have df := B_ ab.out 1
       have dg : a9.cell? ⟨ae, 0, none⟩ = some (.int .u64 ai) := (D_ aa.out 0).trans rfl
       have dh : a9.cell? ⟨ae, 1, none⟩ = some (.int .u64 ah) := (D_ aa.out 1).trans rfl
       have di := B_ aa.out 0
       have dj := B_ aa.out 1
       try go_wp2_with (first | ((with_reducible refine P_ (f := 44) rfl ?_); refine R_ (some 40) rfl rfl Tryd.func44 (by kernel_rfl) rfl #[.agg #[.int .u64 ad, .int .u64 ac], .agg #[.int .u64 aB, .int .u64 aC]] rfl (by (try simp only [List.map_toArray, List.map_cons, List.map_nil]); first | done | rfl | (simp only [List.length_drop, List.length_take]; rfl)) ?_; (with_reducible refine (wide_Cmp.calls k1 ad ac aB aC aO _ A47.out).mono ?_); rintro e br ⟨rfl, hb⟩; refine ⟨_, rfl, ?_⟩; have al := A_.mk (F_ (g := af) (o := .cells #[.int .u64 ad, .int .u64 ac] 77 (0, 0)) (by refine kB ?_; refine J_ ?_ aq.out _; refine kB ?_; refine J_ ?_ aq.out _; refine kB ?_; exact ab.out) hb); have am := A_.mk (F_ (g := ae) (o := .cells #[.int .u64 aB, .int .u64 aC] 77 (0, 0)) (by refine kB ?_; refine L_ (cs := #[.int .u64 aB, .int .u64 ah]) ?_ 1 _ rfl; refine kB ?_; refine L_ (cs := #[.int .u64 ai, .int .u64 ah]) ?_ 0 _ rfl; refine kB ?_; exact aa.out) hb); have an := A_.mk (F_ (g := ar) (o := .cells #[.int .u64 0, .int .u64 0] 77 (0, 0)) (by refine kB ?_; refine J_ ?_ au.out _; refine kB ?_; refine J_ ?_ au.out _; refine kB ?_; exact ag.out) hb); have ao := A_.mk (E_ (by exact lB HB.out) hb); clear ab; clear aa; clear ag; clear HB; have ab := al; have aa := am; have ag := an; have HB := ao; clear al am an ao; (try clear hb); (try clear aV); (try clear hk); (try clear hi); have dk : br.cell? ⟨ae, 0, none⟩ = some (.int .u64 aB) := (D_ aa.out 0).trans rfl; have dl : br.cell? ⟨ae, 1, none⟩ = some (.int .u64 aC) := (D_ aa.out 1).trans rfl; have dm := B_ aa.out 0; have dn := B_ aa.out 1; have dp : br.cell? ⟨af, 0, none⟩ = some (.int .u64 ad) := (D_ ab.out 0).trans rfl; have dq : br.cell? ⟨af, 1, none⟩ = some (.int .u64 ac) := (D_ ab.out 1).trans rfl; have dr := B_ ab.out 0; have dt := B_ ab.out 1) | ((with_reducible refine P_ (f := 45) rfl ?_); refine R_ (some 47) rfl rfl Tryd.func45 (by kernel_rfl) rfl #[.agg #[.int .u64 aB, .int .u64 aC], .agg #[.int .u64 ad, .int .u64 ac]] rfl (by (try simp only [List.map_toArray, List.map_cons, List.map_nil]); first | done | rfl | (simp only [List.length_drop, List.length_take]; rfl)) ?_; (with_reducible refine (wide_Sub.calls aB aC ad ac bc bh cd _ A66.out).mono ?_); rintro e b9 ⟨rfl, hb⟩; refine ⟨_, rfl, ?_⟩; have al := A_.mk (F_ (g := af) (o := .cells #[.int .u64 ad, .int .u64 ac] 77 (0, 0)) (by refine kB ?_; exact ab.out) hb); have am := A_.mk (F_ (g := ae) (o := .cells #[.int .u64 aB, .int .u64 aC] 77 (0, 0)) (by refine kB ?_; exact aa.out) hb); have an := A_.mk (F_ (g := ar) (o := .cells #[.int .u64 0, .int .u64 0] 77 (0, 0)) (by refine kB ?_; exact ag.out) hb); have ao := A_.mk (E_ (by exact lB HB.out) hb); clear ab; clear aa; clear ag; clear HB; have ab := al; have aa := am; have ag := an; have HB := ao; clear al am an ao; (try clear hb); (try clear aV); (try clear hk); (try clear hi); have du : b9.cell? ⟨ae, 0, none⟩ = some (.int .u64 aB) := (D_ aa.out 0).trans rfl; have dv : b9.cell? ⟨ae, 1, none⟩ = some (.int .u64 aC) := (D_ aa.out 1).trans rfl; have dw := B_ aa.out 0; have dx := B_ aa.out 1))
       go_roundg k1
       case measure => have := HK1.out; omega
       case rel => exact ⟨(ad), (ac), (bc), (bh), H', ⟨by have := HK1.out; omega⟩, ⟨by refine kB ?_; refine J_ ?_ aq.out _; refine kB ?_; refine J_ ?_ aq.out _; refine kB ?_; exact ab.out⟩, ⟨by refine kB ?_; refine L_ (cs := #[.int .u64 bc, .int .u64 aC]) ?_ 1 _ rfl; refine kB ?_; refine L_ (cs := #[.int .u64 aB, .int .u64 aC]) ?_ 0 _ rfl; refine kB ?_; exact aa.out⟩, ⟨by refine kB ?_; refine J_ ?_ au.out _; refine kB ?_; refine J_ ?_ au.out _; refine kB ?_; exact ag.out⟩, ⟨by exact lB HB.out⟩⟩
     ·rw [if_neg c44] at H
      have b5 : (!(ai == 0) || (!(ah == 0))) = false := by simpa using c44
      clear c44
      replace H := Option.bind_eq_some_iff.mp H
      obtain ⟨⟨bd, bi, ce⟩, A830, H⟩ := H
      replace H : (some (bd, bi)) = some (r1, r2) := H
      have A83 := A_.mk A830
      clear A830
      simp only [Option.some.injEq, Prod.mk.injEq] at H
      obtain ⟨rfl, rfl⟩ := H
      have en := ay.out
      have eo := aq.out
      have ep := aD.out
      have eq := au.out
      have dy : wr.cell? ⟨ae, 0, none⟩ = some (.int .u64 ai) := (D_ aa.out 0).trans rfl
      have dz : wr.cell? ⟨ae, 1, none⟩ = some (.int .u64 ah) := (D_ aa.out 1).trans rfl
      have dA := B_ aa.out 0
      have dB := B_ aa.out 1
      have er := aE.out
      have es := az.out
      have dC : wr.cell? ⟨af, 0, none⟩ = some (.int .u64 ad) := (D_ ab.out 0).trans rfl
      have dD : wr.cell? ⟨af, 1, none⟩ = some (.int .u64 ac) := (D_ ab.out 1).trans rfl
      have dE := B_ ab.out 0
      have dF := B_ ab.out 1
      go_wp2_with (first | ((with_reducible refine P_ (f := 43) rfl ?_); refine R_ (some 53) rfl rfl Tryd.func43 (by kernel_rfl) rfl #[.agg #[.int .u64 ad, .int .u64 ac], .int .i64 aH] rfl (by (try simp only [List.map_toArray, List.map_cons, List.map_nil]); first | done | (simp only [aU]; rfl) | rfl | (simp only [List.length_drop, List.length_take]; rfl)) ?_; (with_reducible refine (wide_Shift.calls k1 ad ac aH bd bi ce _ A83.out).mono ?_); rintro e bs ⟨rfl, hb⟩; refine ⟨_, rfl, ?_⟩; have al := A_.mk (F_ (g := af) (o := .cells #[.int .u64 ad, .int .u64 ac] 77 (0, 0)) (by refine kB ?_; exact ab.out) hb); have am := A_.mk (F_ (g := ae) (o := .cells #[.int .u64 ai, .int .u64 ah] 77 (0, 0)) (by refine kB ?_; exact aa.out) hb); have an := A_.mk (F_ (g := ar) (o := .cells #[.int .u64 0, .int .u64 0] 77 (0, 0)) (by refine kB ?_; exact ag.out) hb); have ao := A_.mk (E_ (by exact lB HB.out) hb); clear ab; clear aa; clear ag; clear HB; have ab := al; have aa := am; have ag := an; have HB := ao; clear al am an ao; (try clear hb); (try clear aV); (try clear hk); (try clear hi); have dG : bs.cell? ⟨af, 0, none⟩ = some (.int .u64 ad) := (D_ ab.out 0).trans rfl; have dH : bs.cell? ⟨af, 1, none⟩ = some (.int .u64 ac) := (D_ ab.out 1).trans rfl; have dI := B_ ab.out 0; have dJ := B_ ab.out 1; have dK : bs.cell? ⟨ar, 0, none⟩ = some (.int .u64 0) := (D_ ag.out 0).trans rfl; have dL : bs.cell? ⟨ar, 1, none⟩ = some (.int .u64 0) := (D_ ag.out 1).trans rfl; have dM := B_ ag.out 0; have dN := B_ ag.out 1))
      refine bodyPost_ret (results_cell_row rfl _ _ ar 77 #[.int .u64 bd, .int .u64 bi] (0, 0) _ rfl (by refine kB ?_; refine L_ (cs := #[.int .u64 bd, .int .u64 0]) ?_ 1 _ rfl; refine kB ?_; refine L_ (cs := #[.int .u64 0, .int .u64 0]) ?_ 0 _ rfl; refine kB ?_; refine J_ ?_ az.out _; refine kB ?_; refine J_ ?_ az.out _; refine kB ?_; exact ag.out) Tryd.underlying77 rfl (by kernel_rfl)) rfl ?_
      exact ⟨by first | rfl | (simp [errW_none, errW_some] <;> rfl) | (simp only [← aU]; first | rfl | (simp [errW_none, errW_some] <;> rfl)) | (simp [*, errW_none, errW_some] <;> rfl), by exact lB HB.out⟩

end Go.Proofs.YtjcgmjhcaaaieaaDoor.Pr
