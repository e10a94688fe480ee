-- printed by a program of this session's (wip/mp.sh), out of the translation; the texts of its folder 'given' are typed by hand
import Derived.Test.YtjcgmjhcaaaieaaDoorPr0
import Derived.Test.YtjcgmjhcaaaieaaDoorPr3
import Derived.Test.YtjcgmjhcaaaieaaDoorPr17
import Derived.Test.YtjcgmjhcaaaieaaDoorPr20
import Derived.Test.YtjcgmjhcaaaieaaDoorPr22
import Derived.Test.YtjcgmjhcaaaieaaDoorPr24
namespace Go.Proofs.YtjcgmjhcaaaieaaDoor.Pr
open Go.RowKit Go.Proofs.YtjcgmjhcaaaieaaDoorW.PrintWords Go.Proofs.YtjcgmjhcaaaieaaDoorW.PrintLast Go.Proofs.YtjcgmjhcaaaieaaDoorW.PrintMore
attribute [local go_sem] max2_int min2_int max_two min_two max_three min_three max_four min_four   -- for this text's walks alone
attribute [local go_sem high] eqA32
set_option linter.unusedVariables false
set_option linter.unusedSimpArgs false

attribute [local go_sem high] eqA77
/-! ### ratio_common: function 33 -/
def ratio_common.l0 : Nat → Int → Int → Int → Int → Int → Option (Int × Int)
  | 0, _, _, _, _, _ => none
  | k + 1, x5, x219000, x219001, x220000, x220001 => if (!(x220000 == 0) || (!(x220001 == 0))) = true then ((ratio_twos.f x220000 x220001).bind fun t230 => ((wide_Shift.f k x220000 x220001 (wrap64 (-t230))).bind fun bt231 => ((wide_Cmp.f k x219000 x219001 bt231.1 bt231.2.1).bind fun t234 => (if t234 > 0 then ((wide_Sub.f x219000 x219001 bt231.1 bt231.2.1).bind fun bt235 => (ratio_common.l0 k x5 bt231.1 bt231.2.1 bt235.1 bt235.2.1)) else ((wide_Sub.f bt231.1 bt231.2.1 x219000 x219001).bind fun bt238 => (ratio_common.l0 k x5 x219000 x219001 bt238.1 bt238.2.1)))))) else ((wide_Shift.f k x219000 x219001 x5).bind fun bt227 => (some (bt227.1, bt227.2.1)))
def ratio_common.f (k : Nat) (a0_0 : Int) (a0_1 : Int) (a1_0 : Int) (a1_1 : Int) : Option (Int × Int) := if (a0_0 == 0 && (a0_1 == 0)) = true then (some (a1_0, a1_1)) else (if (a1_0 == 0 && (a1_1 == 0)) = true then (some (a0_0, a0_1)) else ((ratio_twos.f a0_0 a0_1).bind fun t221 => ((ratio_twos.f a1_0 a1_1).bind fun t222 => ((ratio_twos.f a0_0 a0_1).bind fun t223 => ((wide_Shift.f k a0_0 a0_1 (wrap64 (-t223))).bind fun bt224 => (ratio_common.l0 k (mn t221 t222) bt224.1 bt224.2.1 a1_0 a1_1))))))
theorem ratio_common.mono_l : ∀ k, (∀ y0 y1 y2 y3 y4, LeO (ratio_common.l0 k y0 y1 y2 y3 y4) (ratio_common.l0 (k + 1) y0 y1 y2 y3 y4))
  | 0 => fun _ _ _ _ _ r h => by simp [ratio_common.l0] at h
  | k + 1 => by
    have ih0 := ratio_common.mono_l k
    · intro y0 y1 y2 y3 y4
      unfold ratio_common.l0
      repeat' first
      | (with_reducible exact ih0 _ _ _ _ _)
      | (with_reducible exact wide_Cmp.mono _ _ _ _ _)
      | (with_reducible exact wide_Shift.mono _ _ _ _)
      | (with_reducible exact LeO.refl _)
      | (with_reducible exact LeO.none _)
      | (with_reducible refine LeO.ite ?_ ?_)
      | (with_reducible refine LeO.bind ?_ (fun _ => ?_))
      | exact ih0 _ _ _ _ _
      | exact wide_Cmp.mono _ _ _ _ _
      | exact wide_Shift.mono _ _ _ _
      | exact LeO.none _
      | refine LeO.ite ?_ ?_
      | refine LeO.bind ?_ (fun _ => ?_)
theorem ratio_common.mono : ∀ a0 a1 a2 a3 k, LeO (ratio_common.f k a0 a1 a2 a3) (ratio_common.f (k + 1) a0 a1 a2 a3) := by
  intro a0 a1 a2 a3 k
  have ih0 := ratio_common.mono_l k
  unfold ratio_common.f
  repeat' first
      | (with_reducible exact ih0 _ _ _ _ _)
      | (with_reducible exact wide_Cmp.mono _ _ _ _ _)
      | (with_reducible exact wide_Shift.mono _ _ _ _)
      | (with_reducible exact LeO.refl _)
      | (with_reducible exact LeO.none _)
      | (with_reducible refine LeO.ite ?_ ?_)
      | (with_reducible refine LeO.bind ?_ (fun _ => ?_))
      | exact ih0 _ _ _ _ _
      | exact wide_Cmp.mono _ _ _ _ _
      | exact wide_Shift.mono _ _ _ _
      | exact LeO.none _
      | refine LeO.ite ?_ ?_
      | refine LeO.bind ?_ (fun _ => ?_)
def ratio_common.T6 : Bool × List (List Nat × List Nat) := (true, [([], []), ([], []), ([1], [1]), ([2], [2]), ([0, 3, 2], [0, 3]), ([4], [4]), ([5], [5]), ([5], [5]), ([6, 4, 0, 1, 2, 3, 4, 5, 6], [6])])
def ratio_common.B6 : List Nat := [0, 0, 2, 6, 15, 31, 63, 63, 127]
theorem ratio_common.tab6 : rtab .any (opsOf Tryd.f33 6) = ratio_common.T6 := by kernel_rfl
theorem ratio_common.bits6 : waitsOk ratio_common.T6.2 ratio_common.B6 = true := by kernel_rfl
def ratio_common.T8 : Bool × List (List Nat × List Nat) := (true, [([], []), ([], []), ([1], [1]), ([2], [2]), ([0, 3, 2], [0, 3]), ([4], [4]), ([5], [5]), ([5], [5]), ([6, 4, 0, 1, 2, 3, 4, 5, 6], [6])])
def ratio_common.B8 : List Nat := [0, 0, 2, 6, 15, 31, 63, 63, 127]
theorem ratio_common.tab8 : rtab .any (opsOf Tryd.f33 8) = ratio_common.T8 := by kernel_rfl
theorem ratio_common.bits8 : waitsOk ratio_common.T8.2 ratio_common.B8 = true := by kernel_rfl
set_option maxHeartbeats 8000000 in
set_option maxRecDepth 100000 in
theorem ratio_common.calls (k : Nat) (a0_0 : Int) (a0_1 : Int) (a1_0 : Int) (a1_1 : Int) (r1 : Int) (r2 : Int) (w : World) (h : ratio_common.f k a0_0 a0_1 a1_0 a1_1 = some (r1, r2)) (hTab : HasTab w) :
    Calls Tryd.prog 33 #[.agg #[.int .u64 a0_0, .int .u64 a0_1], .agg #[.int .u64 a1_0, .int .u64 a1_1]] w fun e w' => e = .returned (.agg #[.int .u64 r1, .int .u64 r2]) ∧ Below w.heap.size w w' := by
  have hu77 := Tryd.underlying77
  have HB := Aside0.mk (Below.refl w.heap.size w)
  have H : (if (a0_0 == 0 && (a0_1 == 0)) = true then (some (a1_0, a1_1)) else (if (a1_0 == 0 && (a1_1 == 0)) = true then (some (a0_0, a0_1)) else ((ratio_twos.f a0_0 a0_1).bind fun t221 => ((ratio_twos.f a1_0 a1_1).bind fun t222 => ((ratio_twos.f a0_0 a0_1).bind fun t223 => ((wide_Shift.f k a0_0 a0_1 (wrap64 (-t223))).bind fun bt224 => (ratio_common.l0 k (mn t221 t222) bt224.1 bt224.2.1 a1_0 a1_1))))))) = some (r1, r2) := h
  clear h
  by_cases c3 : (a0_0 == 0 && (a0_1 == 0)) = true
  · rw [if_pos c3] at H
    have c3b0 : (a0_0 == 0 && (a0_1 == 0)) = true := c3
    (try (have c3b1 : decide (a0_0 = 0 && (a0_1 == 0)) = true := by simpa using c3))
    (try (have c3b2 : (a0_0 == 0 && (a0_1 == 0)) = true := by simpa using c3))
    clear c3
    simp only [Option.some.injEq, Prod.mk.injEq] at H
    obtain ⟨rfl, rfl⟩ := H
    go_enter Tryd.func33, Tryd.ntmps33
    go_wp2_with (first | ((with_reducible refine gate_dst (N := 2) rfl ?_); refine box_event ?hg (N := 2) ?hd (cs := #[.int .u64 a0_0, .int .u64 a0_1]) (t := 77) ?hr ?_; (case hd => rfl); (case hg => rfl); (case hr => first | (go_simp; done) | (go_simp; rfl)); intro gb218 hg w4 hbox hb; have n0_ := Aside0.mk (below_step (by repeat (first | (with_reducible first | exact HB.out | apply below_alloc | apply pw_below_drewN | apply below_drew1) | exact HB.out)) hb); have n1_ := Aside0.mk (hbox); have n2_ := Aside0.mk ((by rw [hg]; exact (below_size (by repeat (first | (with_reducible first | exact HB.out | apply below_alloc | apply pw_below_drewN | apply below_drew1) | exact HB.out))) : w.heap.size ≤ gb218)); have n3_ := Aside0.mk ((by rw [hg]; exact (below_size (by repeat (first | (with_reducible first | exact HB.out | apply below_alloc | apply pw_below_drewN | apply below_drew1) | exact HB.out))) : w.heap.size ≤ gb218)); clear HB; have HB := n0_; have BK218 := n1_; have GW218 := n2_; have GE218 := n3_; clear n0_ n1_ n2_ n3_; clear hb hbox hg) | ((with_reducible refine gate_dst (N := 3) rfl ?_); refine box_event ?hg (N := 3) ?hd (cs := #[.int .u64 a1_0, .int .u64 a1_1]) (t := 77) ?hr ?_; (case hd => rfl); (case hg => rfl); (case hr => first | (go_simp; done) | (go_simp; rfl)); intro gb219 hg w5 hbox hb; have n0_ := Aside0.mk (blk_below (g := gb218) (o := .cells #[.int .u64 a0_0, .int .u64 a0_1] 77 (0, 0)) (by (with_reducible repeat (first | refine blk_drewN ?_ _ | refine blk_drew ?_ | refine blk_alloc ?_ _)); exact BK218.out) hb); have n1_ := Aside0.mk (below_step (by repeat (first | (with_reducible first | exact HB.out | apply below_alloc | apply pw_below_drewN | apply below_drew1 | refine below_set ?_ GE218.out) | exact HB.out)) hb); have n2_ := Aside0.mk (hbox); have n3_ := Aside0.mk ((by rw [hg]; exact (below_size (by repeat (first | (with_reducible first | exact HB.out | apply below_alloc | apply pw_below_drewN | apply below_drew1 | refine below_set ?_ GE218.out) | exact HB.out))) : w.heap.size ≤ gb219)); have n4_ := Aside0.mk ((by rw [hg]; exact (below_size (by repeat (first | (with_reducible first | exact HB.out | apply below_alloc | apply pw_below_drewN | apply below_drew1 | refine below_set ?_ GE218.out) | exact HB.out))) : w.heap.size ≤ gb219)); have n5_ := Aside0.mk ((by rw [hg]; exact Nat.ne_of_lt (blk_lt (g := gb218) (o := .cells #[.int .u64 a0_0, .int .u64 a0_1] 77 (0, 0)) (by (with_reducible repeat (first | refine blk_drewN ?_ _ | refine blk_drew ?_ | refine blk_alloc ?_ _)); exact BK218.out)) : gb218 ≠ gb219)); have n6_ := Aside0.mk ((by rw [hg]; exact Nat.ne_of_gt (blk_lt (g := gb218) (o := .cells #[.int .u64 a0_0, .int .u64 a0_1] 77 (0, 0)) (by (with_reducible repeat (first | refine blk_drewN ?_ _ | refine blk_drew ?_ | refine blk_alloc ?_ _)); exact BK218.out)) : gb219 ≠ gb218)); clear BK218; clear HB; have BK218 := n0_; have HB := n1_; have BK219 := n2_; have GW219 := n3_; have GE219 := n4_; have NB218_219 := n5_; have NB219_218 := n6_; clear n0_ n1_ n2_ n3_ n4_ n5_ n6_; clear hb hbox hg) | ((with_reducible refine gate_dst (N := 4) rfl ?_); refine box_event ?hg (N := 4) ?hd (cs := #[.int .u64 0, .int .u64 0]) (t := 77) ?hr ?_; (case hd => rfl); (case hg => rfl); (case hr => first | (go_simp; done) | (go_simp; rfl)); intro gb220 hg w6 hbox hb; have n0_ := Aside0.mk (blk_below (g := gb218) (o := .cells #[.int .u64 a0_0, .int .u64 a0_1] 77 (0, 0)) (by (with_reducible repeat (first | refine blk_drewN ?_ _ | refine blk_drew ?_ | refine blk_alloc ?_ _)); exact BK218.out) hb); have n1_ := Aside0.mk (blk_below (g := gb219) (o := .cells #[.int .u64 a1_0, .int .u64 a1_1] 77 (0, 0)) (by (with_reducible repeat (first | refine blk_drewN ?_ _ | refine blk_drew ?_ | refine blk_alloc ?_ _)); exact BK219.out) hb); have n2_ := Aside0.mk (below_step (by repeat (first | (with_reducible first | exact HB.out | apply below_alloc | apply pw_below_drewN | apply below_drew1 | refine below_set ?_ GE218.out | refine below_set ?_ GE219.out) | exact HB.out)) hb); have n3_ := Aside0.mk (hbox); have n4_ := Aside0.mk ((by rw [hg]; exact (below_size (by repeat (first | (with_reducible first | exact HB.out | apply below_alloc | apply pw_below_drewN | apply below_drew1 | refine below_set ?_ GE218.out | refine below_set ?_ GE219.out) | exact HB.out))) : w.heap.size ≤ gb220)); have n5_ := Aside0.mk ((by rw [hg]; exact (below_size (by repeat (first | (with_reducible first | exact HB.out | apply below_alloc | apply pw_below_drewN | apply below_drew1 | refine below_set ?_ GE218.out | refine below_set ?_ GE219.out) | exact HB.out))) : w.heap.size ≤ gb220)); have n6_ := Aside0.mk ((by rw [hg]; exact Nat.ne_of_lt (blk_lt (g := gb218) (o := .cells #[.int .u64 a0_0, .int .u64 a0_1] 77 (0, 0)) (by (with_reducible repeat (first | refine blk_drewN ?_ _ | refine blk_drew ?_ | refine blk_alloc ?_ _)); exact BK218.out)) : gb218 ≠ gb220)); have n7_ := Aside0.mk ((by rw [hg]; exact Nat.ne_of_gt (blk_lt (g := gb218) (o := .cells #[.int .u64 a0_0, .int .u64 a0_1] 77 (0, 0)) (by (with_reducible repeat (first | refine blk_drewN ?_ _ | refine blk_drew ?_ | refine blk_alloc ?_ _)); exact BK218.out)) : gb220 ≠ gb218)); have n8_ := Aside0.mk ((by rw [hg]; exact Nat.ne_of_lt (blk_lt (g := gb219) (o := .cells #[.int .u64 a1_0, .int .u64 a1_1] 77 (0, 0)) (by (with_reducible repeat (first | refine blk_drewN ?_ _ | refine blk_drew ?_ | refine blk_alloc ?_ _)); exact BK219.out)) : gb219 ≠ gb220)); have n9_ := Aside0.mk ((by rw [hg]; exact Nat.ne_of_gt (blk_lt (g := gb219) (o := .cells #[.int .u64 a1_0, .int .u64 a1_1] 77 (0, 0)) (by (with_reducible repeat (first | refine blk_drewN ?_ _ | refine blk_drew ?_ | refine blk_alloc ?_ _)); exact BK219.out)) : gb220 ≠ gb219)); clear BK218; clear BK219; clear HB; have BK218 := n0_; have BK219 := n1_; have HB := n2_; have BK220 := n3_; have GW220 := n4_; have GE220 := n5_; have NB218_220 := n6_; have NB220_218 := n7_; have NB219_220 := n8_; have NB220_219 := n9_; clear n0_ n1_ n2_ n3_ n4_ n5_ n6_ n7_ n8_ n9_; clear hb hbox hg; have hnb7 := NB218_219.out; have hnc7 := NB219_218.out; have hnb8 := NB218_220.out; have hnc8 := NB220_218.out; have hcz9_0 : w6.cell? ⟨gb218, 0, none⟩ = some (.int .u64 a0_0) := (blk_cell BK218.out 0).trans rfl; have hcz9_1 : w6.cell? ⟨gb218, 1, none⟩ = some (.int .u64 a0_1) := (blk_cell BK218.out 1).trans rfl; have hfz9_0 := blk_frozen BK218.out 0; have hfz9_1 := blk_frozen BK218.out 1; have hnb10 := NB219_220.out; have hnc10 := NB220_219.out; have hcz11_0 : w6.cell? ⟨gb219, 0, none⟩ = some (.int .u64 a1_0) := (blk_cell BK219.out 0).trans rfl; have hcz11_1 : w6.cell? ⟨gb219, 1, none⟩ = some (.int .u64 a1_1) := (blk_cell BK219.out 1).trans rfl; have hfz11_0 := blk_frozen BK219.out 0; have hfz11_1 := blk_frozen BK219.out 1; have hcz12_0 : w6.cell? ⟨gb220, 0, none⟩ = some (.int .u64 0) := (blk_cell BK220.out 0).trans rfl; have hcz12_1 : w6.cell? ⟨gb220, 1, none⟩ = some (.int .u64 0) := (blk_cell BK220.out 1).trans rfl; have hfz12_0 := blk_frozen BK220.out 0; have hfz12_1 := blk_frozen BK220.out 1))
    refine bodyPost_ret (results_cell_row rfl _ _ gb220 77 #[.int .u64 a1_0, .int .u64 a1_1] (0, 0) _ rfl (by (with_reducible repeat (first | refine blk_drewN ?_ _ | refine blk_drew ?_ | refine blk_alloc ?_ _)); refine blk_put (cs := #[.int .u64 a1_0, .int .u64 0]) ?_ 1 _ rfl; (with_reducible repeat (first | refine blk_drewN ?_ _ | refine blk_drew ?_ | refine blk_alloc ?_ _)); refine blk_put (cs := #[.int .u64 0, .int .u64 0]) ?_ 0 _ rfl; (with_reducible repeat (first | refine blk_drewN ?_ _ | refine blk_drew ?_ | refine blk_alloc ?_ _)); exact BK220.out) Tryd.underlying77 rfl (by kernel_rfl)) rfl ?_
    exact ⟨by first | rfl | (simp [errW_none, errW_some] <;> rfl) | (simp [*, errW_none, errW_some] <;> rfl), by repeat (first | (with_reducible first | exact HB.out | apply below_alloc | apply pw_below_drewN | apply below_drew1 | refine below_set ?_ GE218.out | refine below_set ?_ GE219.out | refine below_set ?_ GE220.out) | exact HB.out)⟩
  · rw [if_neg c3] at H
    have c3b0 : (a0_0 == 0 && (a0_1 == 0)) = false := by simpa using c3
    (try (have c3b1 : decide (a0_0 = 0 && (a0_1 == 0)) = false := by simpa using c3))
    (try (have c3b2 : (a0_0 == 0 && (a0_1 == 0)) = false := by simpa using c3))
    (try (have c3b3 : ¬ (a0_0 = 0 && (a0_1 == 0)) := by simpa using c3))
    clear c3
    by_cases c13 : (a1_0 == 0 && (a1_1 == 0)) = true
    · rw [if_pos c13] at H
      have c13b0 : (a1_0 == 0 && (a1_1 == 0)) = true := c13
      (try (have c13b1 : decide (a1_0 = 0 && (a1_1 == 0)) = true := by simpa using c13))
      (try (have c13b2 : (a1_0 == 0 && (a1_1 == 0)) = true := by simpa using c13))
      clear c13
      simp only [Option.some.injEq, Prod.mk.injEq] at H
      obtain ⟨rfl, rfl⟩ := H
      go_enter Tryd.func33, Tryd.ntmps33
      go_wp2_with (first | ((with_reducible refine gate_dst (N := 2) rfl ?_); refine box_event ?hg (N := 2) ?hd (cs := #[.int .u64 a0_0, .int .u64 a0_1]) (t := 77) ?hr ?_; (case hd => rfl); (case hg => rfl); (case hr => first | (go_simp; done) | (go_simp; rfl)); intro gb218 hg w14 hbox hb; have n0_ := Aside0.mk (below_step (by repeat (first | (with_reducible first | exact HB.out | apply below_alloc | apply pw_below_drewN | apply below_drew1) | exact HB.out)) hb); have n1_ := Aside0.mk (hbox); have n2_ := Aside0.mk ((by rw [hg]; exact (below_size (by repeat (first | (with_reducible first | exact HB.out | apply below_alloc | apply pw_below_drewN | apply below_drew1) | exact HB.out))) : w.heap.size ≤ gb218)); have n3_ := Aside0.mk ((by rw [hg]; exact (below_size (by repeat (first | (with_reducible first | exact HB.out | apply below_alloc | apply pw_below_drewN | apply below_drew1) | exact HB.out))) : w.heap.size ≤ gb218)); clear HB; have HB := n0_; have BK218 := n1_; have GW218 := n2_; have GE218 := n3_; clear n0_ n1_ n2_ n3_; clear hb hbox hg) | ((with_reducible refine gate_dst (N := 3) rfl ?_); refine box_event ?hg (N := 3) ?hd (cs := #[.int .u64 a1_0, .int .u64 a1_1]) (t := 77) ?hr ?_; (case hd => rfl); (case hg => rfl); (case hr => first | (go_simp; done) | (go_simp; rfl)); intro gb219 hg w15 hbox hb; have n0_ := Aside0.mk (blk_below (g := gb218) (o := .cells #[.int .u64 a0_0, .int .u64 a0_1] 77 (0, 0)) (by (with_reducible repeat (first | refine blk_drewN ?_ _ | refine blk_drew ?_ | refine blk_alloc ?_ _)); exact BK218.out) hb); have n1_ := Aside0.mk (below_step (by repeat (first | (with_reducible first | exact HB.out | apply below_alloc | apply pw_below_drewN | apply below_drew1 | refine below_set ?_ GE218.out) | exact HB.out)) hb); have n2_ := Aside0.mk (hbox); have n3_ := Aside0.mk ((by rw [hg]; exact (below_size (by repeat (first | (with_reducible first | exact HB.out | apply below_alloc | apply pw_below_drewN | apply below_drew1 | refine below_set ?_ GE218.out) | exact HB.out))) : w.heap.size ≤ gb219)); have n4_ := Aside0.mk ((by rw [hg]; exact (below_size (by repeat (first | (with_reducible first | exact HB.out | apply below_alloc | apply pw_below_drewN | apply below_drew1 | refine below_set ?_ GE218.out) | exact HB.out))) : w.heap.size ≤ gb219)); have n5_ := Aside0.mk ((by rw [hg]; exact Nat.ne_of_lt (blk_lt (g := gb218) (o := .cells #[.int .u64 a0_0, .int .u64 a0_1] 77 (0, 0)) (by (with_reducible repeat (first | refine blk_drewN ?_ _ | refine blk_drew ?_ | refine blk_alloc ?_ _)); exact BK218.out)) : gb218 ≠ gb219)); have n6_ := Aside0.mk ((by rw [hg]; exact Nat.ne_of_gt (blk_lt (g := gb218) (o := .cells #[.int .u64 a0_0, .int .u64 a0_1] 77 (0, 0)) (by (with_reducible repeat (first | refine blk_drewN ?_ _ | refine blk_drew ?_ | refine blk_alloc ?_ _)); exact BK218.out)) : gb219 ≠ gb218)); clear BK218; clear HB; have BK218 := n0_; have HB := n1_; have BK219 := n2_; have GW219 := n3_; have GE219 := n4_; have NB218_219 := n5_; have NB219_218 := n6_; clear n0_ n1_ n2_ n3_ n4_ n5_ n6_; clear hb hbox hg) | ((with_reducible refine gate_dst (N := 4) rfl ?_); refine box_event ?hg (N := 4) ?hd (cs := #[.int .u64 0, .int .u64 0]) (t := 77) ?hr ?_; (case hd => rfl); (case hg => rfl); (case hr => first | (go_simp; done) | (go_simp; rfl)); intro gb220 hg w16 hbox hb; have n0_ := Aside0.mk (blk_below (g := gb218) (o := .cells #[.int .u64 a0_0, .int .u64 a0_1] 77 (0, 0)) (by (with_reducible repeat (first | refine blk_drewN ?_ _ | refine blk_drew ?_ | refine blk_alloc ?_ _)); exact BK218.out) hb); have n1_ := Aside0.mk (blk_below (g := gb219) (o := .cells #[.int .u64 a1_0, .int .u64 a1_1] 77 (0, 0)) (by (with_reducible repeat (first | refine blk_drewN ?_ _ | refine blk_drew ?_ | refine blk_alloc ?_ _)); exact BK219.out) hb); have n2_ := Aside0.mk (below_step (by repeat (first | (with_reducible first | exact HB.out | apply below_alloc | apply pw_below_drewN | apply below_drew1 | refine below_set ?_ GE218.out | refine below_set ?_ GE219.out) | exact HB.out)) hb); have n3_ := Aside0.mk (hbox); have n4_ := Aside0.mk ((by rw [hg]; exact (below_size (by repeat (first | (with_reducible first | exact HB.out | apply below_alloc | apply pw_below_drewN | apply below_drew1 | refine below_set ?_ GE218.out | refine below_set ?_ GE219.out) | exact HB.out))) : w.heap.size ≤ gb220)); have n5_ := Aside0.mk ((by rw [hg]; exact (below_size (by repeat (first | (with_reducible first | exact HB.out | apply below_alloc | apply pw_below_drewN | apply below_drew1 | refine below_set ?_ GE218.out | refine below_set ?_ GE219.out) | exact HB.out))) : w.heap.size ≤ gb220)); have n6_ := Aside0.mk ((by rw [hg]; exact Nat.ne_of_lt (blk_lt (g := gb218) (o := .cells #[.int .u64 a0_0, .int .u64 a0_1] 77 (0, 0)) (by (with_reducible repeat (first | refine blk_drewN ?_ _ | refine blk_drew ?_ | refine blk_alloc ?_ _)); exact BK218.out)) : gb218 ≠ gb220)); have n7_ := Aside0.mk ((by rw [hg]; exact Nat.ne_of_gt (blk_lt (g := gb218) (o := .cells #[.int .u64 a0_0, .int .u64 a0_1] 77 (0, 0)) (by (with_reducible repeat (first | refine blk_drewN ?_ _ | refine blk_drew ?_ | refine blk_alloc ?_ _)); exact BK218.out)) : gb220 ≠ gb218)); have n8_ := Aside0.mk ((by rw [hg]; exact Nat.ne_of_lt (blk_lt (g := gb219) (o := .cells #[.int .u64 a1_0, .int .u64 a1_1] 77 (0, 0)) (by (with_reducible repeat (first | refine blk_drewN ?_ _ | refine blk_drew ?_ | refine blk_alloc ?_ _)); exact BK219.out)) : gb219 ≠ gb220)); have n9_ := Aside0.mk ((by rw [hg]; exact Nat.ne_of_gt (blk_lt (g := gb219) (o := .cells #[.int .u64 a1_0, .int .u64 a1_1] 77 (0, 0)) (by (with_reducible repeat (first | refine blk_drewN ?_ _ | refine blk_drew ?_ | refine blk_alloc ?_ _)); exact BK219.out)) : gb220 ≠ gb219)); clear BK218; clear BK219; clear HB; have BK218 := n0_; have BK219 := n1_; have HB := n2_; have BK220 := n3_; have GW220 := n4_; have GE220 := n5_; have NB218_220 := n6_; have NB220_218 := n7_; have NB219_220 := n8_; have NB220_219 := n9_; clear n0_ n1_ n2_ n3_ n4_ n5_ n6_ n7_ n8_ n9_; clear hb hbox hg; have hnb17 := NB218_219.out; have hnc17 := NB219_218.out; have hnb18 := NB218_220.out; have hnc18 := NB220_218.out; have hcz19_0 : w16.cell? ⟨gb218, 0, none⟩ = some (.int .u64 a0_0) := (blk_cell BK218.out 0).trans rfl; have hcz19_1 : w16.cell? ⟨gb218, 1, none⟩ = some (.int .u64 a0_1) := (blk_cell BK218.out 1).trans rfl; have hfz19_0 := blk_frozen BK218.out 0; have hfz19_1 := blk_frozen BK218.out 1; have hnb20 := NB219_220.out; have hnc20 := NB220_219.out; have hcz21_0 : w16.cell? ⟨gb219, 0, none⟩ = some (.int .u64 a1_0) := (blk_cell BK219.out 0).trans rfl; have hcz21_1 : w16.cell? ⟨gb219, 1, none⟩ = some (.int .u64 a1_1) := (blk_cell BK219.out 1).trans rfl; have hfz21_0 := blk_frozen BK219.out 0; have hfz21_1 := blk_frozen BK219.out 1; have hcz22_0 : w16.cell? ⟨gb220, 0, none⟩ = some (.int .u64 0) := (blk_cell BK220.out 0).trans rfl; have hcz22_1 : w16.cell? ⟨gb220, 1, none⟩ = some (.int .u64 0) := (blk_cell BK220.out 1).trans rfl; have hfz22_0 := blk_frozen BK220.out 0; have hfz22_1 := blk_frozen BK220.out 1))
      refine bodyPost_ret (results_cell_row rfl _ _ gb220 77 #[.int .u64 a0_0, .int .u64 a0_1] (0, 0) _ rfl (by (with_reducible repeat (first | refine blk_drewN ?_ _ | refine blk_drew ?_ | refine blk_alloc ?_ _)); refine blk_put (cs := #[.int .u64 a0_0, .int .u64 0]) ?_ 1 _ rfl; (with_reducible repeat (first | refine blk_drewN ?_ _ | refine blk_drew ?_ | refine blk_alloc ?_ _)); refine blk_put (cs := #[.int .u64 0, .int .u64 0]) ?_ 0 _ rfl; (with_reducible repeat (first | refine blk_drewN ?_ _ | refine blk_drew ?_ | refine blk_alloc ?_ _)); exact BK220.out) Tryd.underlying77 rfl (by kernel_rfl)) rfl ?_
      exact ⟨by first | rfl | (simp [errW_none, errW_some] <;> rfl) | (simp [*, errW_none, errW_some] <;> rfl), by repeat (first | (with_reducible first | exact HB.out | apply below_alloc | apply pw_below_drewN | apply below_drew1 | refine below_set ?_ GE218.out | refine below_set ?_ GE219.out | refine below_set ?_ GE220.out) | exact HB.out)⟩
    · rw [if_neg c13] at H
      have c13b0 : (a1_0 == 0 && (a1_1 == 0)) = false := by simpa using c13
      (try (have c13b1 : decide (a1_0 = 0 && (a1_1 == 0)) = false := by simpa using c13))
      (try (have c13b2 : (a1_0 == 0 && (a1_1 == 0)) = false := by simpa using c13))
      (try (have c13b3 : ¬ (a1_0 = 0 && (a1_1 == 0)) := by simpa using c13))
      clear c13
      replace H := Option.bind_eq_some_iff.mp H
      obtain ⟨t221, A230, H⟩ := H
      replace H : ((ratio_twos.f a1_0 a1_1).bind fun t222 => ((ratio_twos.f a0_0 a0_1).bind fun t223 => ((wide_Shift.f k a0_0 a0_1 (wrap64 (-t223))).bind fun bt224 => (ratio_common.l0 k (mn t221 t222) bt224.1 bt224.2.1 a1_0 a1_1)))) = some (r1, r2) := H
      have A23 := Aside0.mk A230
      clear A230
      replace H := Option.bind_eq_some_iff.mp H
      obtain ⟨t222, A240, H⟩ := H
      replace H : ((ratio_twos.f a0_0 a0_1).bind fun t223 => ((wide_Shift.f k a0_0 a0_1 (wrap64 (-t223))).bind fun bt224 => (ratio_common.l0 k (mn t221 t222) bt224.1 bt224.2.1 a1_0 a1_1))) = some (r1, r2) := H
      have A24 := Aside0.mk A240
      clear A240
      obtain ⟨ji25, hji25⟩ : ∃ j_ : Int, (mn t221 t222) = j_ := ⟨_, rfl⟩
      replace H : ((ratio_twos.f a0_0 a0_1).bind fun t223 => ((wide_Shift.f k a0_0 a0_1 (wrap64 (-t223))).bind fun bt224 => (ratio_common.l0 k ji25 bt224.1 bt224.2.1 a1_0 a1_1))) = some (r1, r2) := by first | (rw [hji25] at H; exact H) | (simp only [hji25] at H ⊢; exact H)
      (try rw [hji25] at A23)
      (try rw [hji25] at A24)
      have hji25_ : (if t222 < t221 then t222 else t221) = ji25 := hji25
      replace H := Option.bind_eq_some_iff.mp H
      obtain ⟨t223, A260, H⟩ := H
      replace H : ((wide_Shift.f k a0_0 a0_1 (wrap64 (-t223))).bind fun bt224 => (ratio_common.l0 k ji25 bt224.1 bt224.2.1 a1_0 a1_1)) = some (r1, r2) := H
      have A26 := Aside0.mk A260
      clear A260
      replace H := Option.bind_eq_some_iff.mp H
      obtain ⟨⟨t224, t225, t226⟩, A270, H⟩ := H
      replace H : (ratio_common.l0 k ji25 t224 t225 a1_0 a1_1) = some (r1, r2) := H
      have A27 := Aside0.mk A270
      clear A270
      have H' := Aside0.mk H
      clear H
      go_enter Tryd.func33, Tryd.ntmps33
      try go_wp2_with (first | ((with_reducible refine gate_dst (N := 2) rfl ?_); refine box_event ?hg (N := 2) ?hd (cs := #[.int .u64 a0_0, .int .u64 a0_1]) (t := 77) ?hr ?_; (case hd => rfl); (case hg => rfl); (case hr => first | (go_simp; done) | (go_simp; rfl)); intro gb218 hg w28 hbox hb; have n0_ := Aside0.mk (below_step (by repeat (first | (with_reducible first | exact HB.out | apply below_alloc | apply pw_below_drewN | apply below_drew1) | exact HB.out)) hb); have n1_ := Aside0.mk (hbox); have n2_ := Aside0.mk ((by rw [hg]; exact (below_size (by repeat (first | (with_reducible first | exact HB.out | apply below_alloc | apply pw_below_drewN | apply below_drew1) | exact HB.out))) : w.heap.size ≤ gb218)); have n3_ := Aside0.mk ((by rw [hg]; exact (below_size (by repeat (first | (with_reducible first | exact HB.out | apply below_alloc | apply pw_below_drewN | apply below_drew1) | exact HB.out))) : w.heap.size ≤ gb218)); clear HB; have HB := n0_; have BK218 := n1_; have GW218 := n2_; have GE218 := n3_; clear n0_ n1_ n2_ n3_; clear hb hbox hg) | ((with_reducible refine gate_dst (N := 3) rfl ?_); refine box_event ?hg (N := 3) ?hd (cs := #[.int .u64 a1_0, .int .u64 a1_1]) (t := 77) ?hr ?_; (case hd => rfl); (case hg => rfl); (case hr => first | (go_simp; done) | (go_simp; rfl)); intro gb219 hg w29 hbox hb; have n0_ := Aside0.mk (blk_below (g := gb218) (o := .cells #[.int .u64 a0_0, .int .u64 a0_1] 77 (0, 0)) (by (with_reducible repeat (first | refine blk_drewN ?_ _ | refine blk_drew ?_ | refine blk_alloc ?_ _)); exact BK218.out) hb); have n1_ := Aside0.mk (below_step (by repeat (first | (with_reducible first | exact HB.out | apply below_alloc | apply pw_below_drewN | apply below_drew1 | refine below_set ?_ GE218.out) | exact HB.out)) hb); have n2_ := Aside0.mk (hbox); have n3_ := Aside0.mk ((by rw [hg]; exact (below_size (by repeat (first | (with_reducible first | exact HB.out | apply below_alloc | apply pw_below_drewN | apply below_drew1 | refine below_set ?_ GE218.out) | exact HB.out))) : w.heap.size ≤ gb219)); have n4_ := Aside0.mk ((by rw [hg]; exact (below_size (by repeat (first | (with_reducible first | exact HB.out | apply below_alloc | apply pw_below_drewN | apply below_drew1 | refine below_set ?_ GE218.out) | exact HB.out))) : w.heap.size ≤ gb219)); have n5_ := Aside0.mk ((by rw [hg]; exact Nat.ne_of_lt (blk_lt (g := gb218) (o := .cells #[.int .u64 a0_0, .int .u64 a0_1] 77 (0, 0)) (by (with_reducible repeat (first | refine blk_drewN ?_ _ | refine blk_drew ?_ | refine blk_alloc ?_ _)); exact BK218.out)) : gb218 ≠ gb219)); have n6_ := Aside0.mk ((by rw [hg]; exact Nat.ne_of_gt (blk_lt (g := gb218) (o := .cells #[.int .u64 a0_0, .int .u64 a0_1] 77 (0, 0)) (by (with_reducible repeat (first | refine blk_drewN ?_ _ | refine blk_drew ?_ | refine blk_alloc ?_ _)); exact BK218.out)) : gb219 ≠ gb218)); clear BK218; clear HB; have BK218 := n0_; have HB := n1_; have BK219 := n2_; have GW219 := n3_; have GE219 := n4_; have NB218_219 := n5_; have NB219_218 := n6_; clear n0_ n1_ n2_ n3_ n4_ n5_ n6_; clear hb hbox hg) | ((with_reducible refine gate_dst (N := 4) rfl ?_); refine box_event ?hg (N := 4) ?hd (cs := #[.int .u64 0, .int .u64 0]) (t := 77) ?hr ?_; (case hd => rfl); (case hg => rfl); (case hr => first | (go_simp; done) | (go_simp; rfl)); intro gb220 hg w30 hbox hb; have n0_ := Aside0.mk (blk_below (g := gb218) (o := .cells #[.int .u64 a0_0, .int .u64 a0_1] 77 (0, 0)) (by (with_reducible repeat (first | refine blk_drewN ?_ _ | refine blk_drew ?_ | refine blk_alloc ?_ _)); exact BK218.out) hb); have n1_ := Aside0.mk (blk_below (g := gb219) (o := .cells #[.int .u64 a1_0, .int .u64 a1_1] 77 (0, 0)) (by (with_reducible repeat (first | refine blk_drewN ?_ _ | refine blk_drew ?_ | refine blk_alloc ?_ _)); exact BK219.out) hb); have n2_ := Aside0.mk (below_step (by repeat (first | (with_reducible first | exact HB.out | apply below_alloc | apply pw_below_drewN | apply below_drew1 | refine below_set ?_ GE218.out | refine below_set ?_ GE219.out) | exact HB.out)) hb); have n3_ := Aside0.mk (hbox); have n4_ := Aside0.mk ((by rw [hg]; exact (below_size (by repeat (first | (with_reducible first | exact HB.out | apply below_alloc | apply pw_below_drewN | apply below_drew1 | refine below_set ?_ GE218.out | refine below_set ?_ GE219.out) | exact HB.out))) : w.heap.size ≤ gb220)); have n5_ := Aside0.mk ((by rw [hg]; exact (below_size (by repeat (first | (with_reducible first | exact HB.out | apply below_alloc | apply pw_below_drewN | apply below_drew1 | refine below_set ?_ GE218.out | refine below_set ?_ GE219.out) | exact HB.out))) : w.heap.size ≤ gb220)); have n6_ := Aside0.mk ((by rw [hg]; exact Nat.ne_of_lt (blk_lt (g := gb218) (o := .cells #[.int .u64 a0_0, .int .u64 a0_1] 77 (0, 0)) (by (with_reducible repeat (first | refine blk_drewN ?_ _ | refine blk_drew ?_ | refine blk_alloc ?_ _)); exact BK218.out)) : gb218 ≠ gb220)); have n7_ := Aside0.mk ((by rw [hg]; exact Nat.ne_of_gt (blk_lt (g := gb218) (o := .cells #[.int .u64 a0_0, .int .u64 a0_1] 77 (0, 0)) (by (with_reducible repeat (first | refine blk_drewN ?_ _ | refine blk_drew ?_ | refine blk_alloc ?_ _)); exact BK218.out)) : gb220 ≠ gb218)); have n8_ := Aside0.mk ((by rw [hg]; exact Nat.ne_of_lt (blk_lt (g := gb219) (o := .cells #[.int .u64 a1_0, .int .u64 a1_1] 77 (0, 0)) (by (with_reducible repeat (first | refine blk_drewN ?_ _ | refine blk_drew ?_ | refine blk_alloc ?_ _)); exact BK219.out)) : gb219 ≠ gb220)); have n9_ := Aside0.mk ((by rw [hg]; exact Nat.ne_of_gt (blk_lt (g := gb219) (o := .cells #[.int .u64 a1_0, .int .u64 a1_1] 77 (0, 0)) (by (with_reducible repeat (first | refine blk_drewN ?_ _ | refine blk_drew ?_ | refine blk_alloc ?_ _)); exact BK219.out)) : gb220 ≠ gb219)); clear BK218; clear BK219; clear HB; have BK218 := n0_; have BK219 := n1_; have HB := n2_; have BK220 := n3_; have GW220 := n4_; have GE220 := n5_; have NB218_220 := n6_; have NB220_218 := n7_; have NB219_220 := n8_; have NB220_219 := n9_; clear n0_ n1_ n2_ n3_ n4_ n5_ n6_ n7_ n8_ n9_; clear hb hbox hg; have hnb31 := NB218_219.out; have hnc31 := NB219_218.out; have hnb32 := NB218_220.out; have hnc32 := NB220_218.out; have hcz33_0 : w30.cell? ⟨gb218, 0, none⟩ = some (.int .u64 a0_0) := (blk_cell BK218.out 0).trans rfl; have hcz33_1 : w30.cell? ⟨gb218, 1, none⟩ = some (.int .u64 a0_1) := (blk_cell BK218.out 1).trans rfl; have hfz33_0 := blk_frozen BK218.out 0; have hfz33_1 := blk_frozen BK218.out 1; have hnb34 := NB219_220.out; have hnc34 := NB220_219.out; have hcz35_0 : w30.cell? ⟨gb219, 0, none⟩ = some (.int .u64 a1_0) := (blk_cell BK219.out 0).trans rfl; have hcz35_1 : w30.cell? ⟨gb219, 1, none⟩ = some (.int .u64 a1_1) := (blk_cell BK219.out 1).trans rfl; have hfz35_0 := blk_frozen BK219.out 0; have hfz35_1 := blk_frozen BK219.out 1))
      have n0_ := Aside0.mk (blk_drew BK218.out)
      have n1_ := Aside0.mk (blk_drew BK219.out)
      have n2_ := Aside0.mk (blk_drew BK220.out)
      have n3_ := Aside0.mk (below_drew1 HB.out)
      clear BK218
      clear BK219
      clear BK220
      clear HB
      have BK218 := n0_
      have BK219 := n1_
      have BK220 := n2_
      have HB := n3_
      clear n0_ n1_ n2_ n3_
      refine start_ (n := 6) (S := fun w' => w'.cell? ⟨gb218, 0, none⟩ = some (.int .u64 a0_0) ∧ w'.cell? ⟨gb218, 1, none⟩ = some (.int .u64 a0_1) ∧ w'.cell? ⟨gb219, 0, none⟩ = some (.int .u64 a1_0) ∧ w'.cell? ⟨gb219, 1, none⟩ = some (.int .u64 a1_1)) (ds := []) #[false, false, false, false, false, false] (by kernel_rfl) rfl rfl ⟨(blk_cell BK218.out 0).trans rfl, (blk_cell BK218.out 1).trans rfl, (blk_cell BK219.out 0).trans rfl, (blk_cell BK219.out 1).trans rfl⟩ (fun hHeld => ?_)
      generalize w30.drew = w36 at BK218 BK219 BK220 HB hHeld ⊢
      refine take_ (i := 0) (N := some 14) (v := ?_) (a' := ?_) #[true, false, false, false, false, false] rfl rfl (by kernel_rfl) (fun _ _ _ h => h) (Or.inl ⟨by rfl, ?_⟩) hHeld ?_ ?_
      rotate_left
      · rintro w' ⟨s0, s1, s2, s3⟩
        go_simp
        with_reducible rfl
      rotate_left
      · simp only [Act.put, List.setIfInBounds_toArray, List.set_cons_zero, List.set_cons_succ, i64_w, i32_w]
        rfl
      refine take_ (i := 2) (N := some 16) (v := ?_) (a' := ?_) #[true, false, true, false, false, false] rfl rfl (by kernel_rfl) (fun _ _ _ h => h) (Or.inl ⟨by rfl, ?_⟩) hHeld ?_ ?_
      rotate_left
      · rintro w' ⟨s0, s1, s2, s3⟩
        go_simp
        with_reducible rfl
      rotate_left
      · simp only [Act.put, List.setIfInBounds_toArray, List.set_cons_zero, List.set_cons_succ, i64_w, i32_w]
        rfl
      refine one_ (i := 1) (N := some 15) #[true, true, true, false, false, false] rfl rfl (by kernel_rfl) (by decide) (fun K hK => ?_)
      refine goes_ Tryd.func42 (by kernel_rfl) rfl #[.agg #[.int .u64 a0_0, .int .u64 a0_1]] (by rfl) rfl rfl (by (try simp only [List.map_toArray, List.map_cons, List.map_nil]); first | done | rfl | (simp only [List.length_drop, List.length_take]; rfl)) ?_
      with_reducible refine (ratio_twos.calls a0_0 a0_1 t221 _ A23.out (hTab.below (by repeat (first | (with_reducible first | exact HB.out | apply below_alloc | apply pw_below_drewN | apply below_drew1 | refine below_set ?_ GE218.out | refine below_set ?_ GE219.out | refine below_set ?_ GE220.out) | exact HB.out)))).mono ?_
      rintro e w37 ⟨rfl, hb⟩
      refine ⟨_, rfl, ?_⟩
      have n0_ := Aside0.mk (blk_below (g := gb218) (o := .cells #[.int .u64 a0_0, .int .u64 a0_1] 77 (0, 0)) (by (with_reducible repeat (first | refine blk_drewN ?_ _ | refine blk_drew ?_ | refine blk_alloc ?_ _)); exact BK218.out) hb)
      have n1_ := Aside0.mk (blk_below (g := gb219) (o := .cells #[.int .u64 a1_0, .int .u64 a1_1] 77 (0, 0)) (by (with_reducible repeat (first | refine blk_drewN ?_ _ | refine blk_drew ?_ | refine blk_alloc ?_ _)); exact BK219.out) hb)
      have n2_ := Aside0.mk (blk_below (g := gb220) (o := .cells #[.int .u64 0, .int .u64 0] 77 (0, 0)) (by (with_reducible repeat (first | refine blk_drewN ?_ _ | refine blk_drew ?_ | refine blk_alloc ?_ _)); exact BK220.out) hb)
      have n3_ := Aside0.mk (below_step (by repeat (first | (with_reducible first | exact HB.out | apply below_alloc | apply pw_below_drewN | apply below_drew1 | refine below_set ?_ GE218.out | refine below_set ?_ GE219.out | refine below_set ?_ GE220.out) | exact HB.out)) hb)
      clear BK218
      clear BK219
      clear BK220
      clear HB
      have BK218 := n0_
      have BK219 := n1_
      have BK220 := n2_
      have HB := n3_
      clear n0_ n1_ n2_ n3_
      (try clear hb)
      (try clear hb2)
      (try clear hk)
      (try clear hi)
      refine hK.out _ _ ⟨(blk_cell BK218.out 0).trans rfl, (blk_cell BK218.out 1).trans rfl, (blk_cell BK219.out 0).trans rfl, (blk_cell BK219.out 1).trans rfl⟩ (fun hHeld => ?_)
      clear hK K
      refine norm_ (a' := ?_) ?_ ?_
      rotate_left
      · show Act.put _ (some 15) _ = _
        simp only [Act.put, List.setIfInBounds_toArray, List.set_cons_zero, List.set_cons_succ, i64_w, i32_w]
        rfl
      refine one_ (i := 3) (N := some 17) #[true, true, true, true, false, false] rfl rfl (by kernel_rfl) (by decide) (fun K hK => ?_)
      refine goes_ Tryd.func42 (by kernel_rfl) rfl #[.agg #[.int .u64 a1_0, .int .u64 a1_1]] (by rfl) rfl rfl (by (try simp only [List.map_toArray, List.map_cons, List.map_nil]); first | done | rfl | (simp only [List.length_drop, List.length_take]; rfl)) ?_
      with_reducible refine (ratio_twos.calls a1_0 a1_1 t222 _ A24.out (hTab.below (by repeat (first | (with_reducible first | exact HB.out | apply below_alloc | apply pw_below_drewN | apply below_drew1 | refine below_set ?_ GE218.out | refine below_set ?_ GE219.out | refine below_set ?_ GE220.out) | exact HB.out)))).mono ?_
      rintro e w38 ⟨rfl, hb⟩
      refine ⟨_, rfl, ?_⟩
      have n0_ := Aside0.mk (blk_below (g := gb218) (o := .cells #[.int .u64 a0_0, .int .u64 a0_1] 77 (0, 0)) (by (with_reducible repeat (first | refine blk_drewN ?_ _ | refine blk_drew ?_ | refine blk_alloc ?_ _)); exact BK218.out) hb)
      have n1_ := Aside0.mk (blk_below (g := gb219) (o := .cells #[.int .u64 a1_0, .int .u64 a1_1] 77 (0, 0)) (by (with_reducible repeat (first | refine blk_drewN ?_ _ | refine blk_drew ?_ | refine blk_alloc ?_ _)); exact BK219.out) hb)
      have n2_ := Aside0.mk (blk_below (g := gb220) (o := .cells #[.int .u64 0, .int .u64 0] 77 (0, 0)) (by (with_reducible repeat (first | refine blk_drewN ?_ _ | refine blk_drew ?_ | refine blk_alloc ?_ _)); exact BK220.out) hb)
      have n3_ := Aside0.mk (below_step (by repeat (first | (with_reducible first | exact HB.out | apply below_alloc | apply pw_below_drewN | apply below_drew1 | refine below_set ?_ GE218.out | refine below_set ?_ GE219.out | refine below_set ?_ GE220.out) | exact HB.out)) hb)
      clear BK218
      clear BK219
      clear BK220
      clear HB
      have BK218 := n0_
      have BK219 := n1_
      have BK220 := n2_
      have HB := n3_
      clear n0_ n1_ n2_ n3_
      (try clear hb)
      (try clear hb2)
      (try clear hk)
      (try clear hi)
      refine hK.out _ _ ⟨(blk_cell BK218.out 0).trans rfl, (blk_cell BK218.out 1).trans rfl, (blk_cell BK219.out 0).trans rfl, (blk_cell BK219.out 1).trans rfl⟩ (fun hHeld => ?_)
      clear hK K
      refine norm_ (a' := ?_) ?_ ?_
      rotate_left
      · show Act.put _ (some 17) _ = _
        simp only [Act.put, List.setIfInBounds_toArray, List.set_cons_zero, List.set_cons_succ, i64_w, i32_w]
        rfl
      refine pure_ (i := 4) (N := some 18) (v := ?_) (a' := ?_) #[true, true, true, true, true, false] rfl rfl (by kernel_rfl) (fun _ _ _ h => h) (Or.inl ⟨by rfl, ?_⟩) ?_ ?_
      rotate_left
      · intro w'
        go_simp
        with_reducible rfl
      rotate_left
      · simp only [Act.put, List.setIfInBounds_toArray, List.set_cons_zero, List.set_cons_succ, i64_w, i32_w]
        rfl
      refine pure_ (i := 5) (N := some 5) (v := ?_) (a' := ?_) #[true, true, true, true, true, true] rfl rfl (by kernel_rfl) (fun _ _ _ h => h) (Or.inl ⟨by rfl, ?_⟩) ?_ ?_
      rotate_left
      · intro w'
        go_simp
        with_reducible rfl
      rotate_left
      · simp only [Act.put, List.setIfInBounds_toArray, List.set_cons_zero, List.set_cons_succ, i64_w, i32_w]
        rfl
      refine done_ (by kernel_rfl) ?_
      try go_wp2
      have n0_ := Aside0.mk (blk_drew BK218.out)
      have n1_ := Aside0.mk (blk_drew BK219.out)
      have n2_ := Aside0.mk (blk_drew BK220.out)
      have n3_ := Aside0.mk (below_drew1 HB.out)
      clear BK218
      clear BK219
      clear BK220
      clear HB
      have BK218 := n0_
      have BK219 := n1_
      have BK220 := n2_
      have HB := n3_
      clear n0_ n1_ n2_ n3_
      refine start_ (n := 9) (S := fun w' => w'.cell? ⟨gb218, 0, none⟩ = some (.int .u64 a0_0) ∧ w'.cell? ⟨gb218, 1, none⟩ = some (.int .u64 a0_1)) (ds := [8]) #[false, false, false, false, false, false, false, false, false] (by kernel_rfl) rfl rfl ⟨(blk_cell BK218.out 0).trans rfl, (blk_cell BK218.out 1).trans rfl⟩ (fun hHeld => ?_); refine with_tabW ratio_common.tab6 ratio_common.bits6 (fun HT_ HW_ => ?_)
      generalize w38.drew = w39 at BK218 BK219 BK220 HB hHeld ⊢
      refine take_ (i := 0) (N := some 20) (v := ?_) (a' := ?_) #[true, false, false, false, false, false, false, false, false] rfl rfl (take_ofW HT_.out HW_.out (by kernel_rfl)) (fun _ _ _ h => h) (Or.inl ⟨by rfl, ?_⟩) hHeld ?_ ?_
      rotate_left
      · rintro w' ⟨s0, s1⟩
        go_simp
        with_reducible rfl
      rotate_left
      · simp only [Act.put, List.setIfInBounds_toArray, List.set_cons_zero, List.set_cons_succ, i64_w, i32_w]
        rfl
      refine take_ (i := 1) (N := some 21) (v := ?_) (a' := ?_) #[true, true, false, false, false, false, false, false, false] rfl rfl (take_ofW HT_.out HW_.out (by kernel_rfl)) (fun _ _ _ h => h) (Or.inl ⟨by rfl, ?_⟩) hHeld ?_ ?_
      rotate_left
      · rintro w' ⟨s0, s1⟩
        go_simp
        with_reducible rfl
      rotate_left
      · simp only [Act.put, List.setIfInBounds_toArray, List.set_cons_zero, List.set_cons_succ, i64_w, i32_w]
        rfl
      refine one_ (i := 2) (N := some 22) #[true, true, true, false, false, false, false, false, false] rfl rfl (one_of HT_.out (by kernel_rfl)) (by decide) (fun K hK => ?_)
      refine goes_ Tryd.func42 (by kernel_rfl) rfl #[.agg #[.int .u64 a0_0, .int .u64 a0_1]] (by rfl) rfl rfl (by (try simp only [List.map_toArray, List.map_cons, List.map_nil]); first | done | rfl | (simp only [List.length_drop, List.length_take]; rfl)) ?_
      with_reducible refine (ratio_twos.calls a0_0 a0_1 t223 _ A26.out (hTab.below (by repeat (first | (with_reducible first | exact HB.out | apply below_alloc | apply pw_below_drewN | apply below_drew1 | refine below_set ?_ GE218.out | refine below_set ?_ GE219.out | refine below_set ?_ GE220.out) | exact HB.out)))).mono ?_
      rintro e w40 ⟨rfl, hb⟩
      refine ⟨_, rfl, ?_⟩
      have n0_ := Aside0.mk (blk_below (g := gb218) (o := .cells #[.int .u64 a0_0, .int .u64 a0_1] 77 (0, 0)) (by (with_reducible repeat (first | refine blk_drewN ?_ _ | refine blk_drew ?_ | refine blk_alloc ?_ _)); exact BK218.out) hb)
      have n1_ := Aside0.mk (blk_below (g := gb219) (o := .cells #[.int .u64 a1_0, .int .u64 a1_1] 77 (0, 0)) (by (with_reducible repeat (first | refine blk_drewN ?_ _ | refine blk_drew ?_ | refine blk_alloc ?_ _)); exact BK219.out) hb)
      have n2_ := Aside0.mk (blk_below (g := gb220) (o := .cells #[.int .u64 0, .int .u64 0] 77 (0, 0)) (by (with_reducible repeat (first | refine blk_drewN ?_ _ | refine blk_drew ?_ | refine blk_alloc ?_ _)); exact BK220.out) hb)
      have n3_ := Aside0.mk (below_step (by repeat (first | (with_reducible first | exact HB.out | apply below_alloc | apply pw_below_drewN | apply below_drew1 | refine below_set ?_ GE218.out | refine below_set ?_ GE219.out | refine below_set ?_ GE220.out) | exact HB.out)) hb)
      clear BK218
      clear BK219
      clear BK220
      clear HB
      have BK218 := n0_
      have BK219 := n1_
      have BK220 := n2_
      have HB := n3_
      clear n0_ n1_ n2_ n3_
      (try clear hb)
      (try clear hb2)
      (try clear hk)
      (try clear hi)
      refine hK.out _ _ ⟨(blk_cell BK218.out 0).trans rfl, (blk_cell BK218.out 1).trans rfl⟩ (fun hHeld => ?_)
      clear hK K
      refine norm_ (a' := ?_) ?_ ?_
      rotate_left
      · show Act.put _ (some 22) _ = _
        simp only [Act.put, List.setIfInBounds_toArray, List.set_cons_zero, List.set_cons_succ, i64_w, i32_w]
        rfl
      refine pure_ (i := 3) (N := some 23) (v := ?_) (a' := ?_) #[true, true, true, true, false, false, false, false, false] rfl rfl (any_of HT_.out (by kernel_rfl)) (fun _ _ _ h => h) (Or.inl ⟨by rfl, ?_⟩) ?_ ?_
      rotate_left
      · intro w'
        go_simp
        with_reducible rfl
      rotate_left
      · simp only [Act.put, List.setIfInBounds_toArray, List.set_cons_zero, List.set_cons_succ, i64_w, i32_w]
        rfl
      refine one_ (i := 4) (N := some 24) #[true, true, true, true, true, false, false, false, false] rfl rfl (one_of HT_.out (by kernel_rfl)) (by decide) (fun K hK => ?_)
      refine goes_ Tryd.func43 (by kernel_rfl) rfl #[.agg #[.int .u64 a0_0, .int .u64 a0_1], .int .i64 (wrap64 (-t223))] (by rfl) rfl rfl (by (try simp only [List.map_toArray, List.map_cons, List.map_nil]); first | done | rfl | (simp only [List.length_drop, List.length_take]; rfl)) ?_
      with_reducible refine (wide_Shift.calls k a0_0 a0_1 (wrap64 (-t223)) t224 t225 t226 _ A27.out).mono ?_
      rintro e w41 ⟨rfl, hb⟩
      refine ⟨_, rfl, ?_⟩
      have n0_ := Aside0.mk (blk_below (g := gb218) (o := .cells #[.int .u64 a0_0, .int .u64 a0_1] 77 (0, 0)) (by (with_reducible repeat (first | refine blk_drewN ?_ _ | refine blk_drew ?_ | refine blk_alloc ?_ _)); exact BK218.out) hb)
      have n1_ := Aside0.mk (blk_below (g := gb219) (o := .cells #[.int .u64 a1_0, .int .u64 a1_1] 77 (0, 0)) (by (with_reducible repeat (first | refine blk_drewN ?_ _ | refine blk_drew ?_ | refine blk_alloc ?_ _)); exact BK219.out) hb)
      have n2_ := Aside0.mk (blk_below (g := gb220) (o := .cells #[.int .u64 0, .int .u64 0] 77 (0, 0)) (by (with_reducible repeat (first | refine blk_drewN ?_ _ | refine blk_drew ?_ | refine blk_alloc ?_ _)); exact BK220.out) hb)
      have n3_ := Aside0.mk (below_step (by repeat (first | (with_reducible first | exact HB.out | apply below_alloc | apply pw_below_drewN | apply below_drew1 | refine below_set ?_ GE218.out | refine below_set ?_ GE219.out | refine below_set ?_ GE220.out) | exact HB.out)) hb)
      clear BK218
      clear BK219
      clear BK220
      clear HB
      have BK218 := n0_
      have BK219 := n1_
      have BK220 := n2_
      have HB := n3_
      clear n0_ n1_ n2_ n3_
      (try clear hb)
      (try clear hb2)
      (try clear hk)
      (try clear hi)
      refine hK.out _ _ ⟨(blk_cell BK218.out 0).trans rfl, (blk_cell BK218.out 1).trans rfl⟩ (fun hHeld => ?_)
      clear hK K
      refine norm_ (a' := ?_) ?_ ?_
      rotate_left
      · show Act.put _ (some 24) _ = _
        simp only [Act.put, List.setIfInBounds_toArray, List.set_cons_zero, List.set_cons_succ, i64_w, i32_w]
        rfl
      refine pure_ (i := 5) (N := some 19) (v := ?_) (a' := ?_) #[true, true, true, true, true, true, false, false, false] rfl rfl (any_of HT_.out (by kernel_rfl)) (fun _ _ _ h => h) (Or.inl ⟨by rfl, ?_⟩) ?_ ?_
      rotate_left
      · intro w'
        go_simp
        with_reducible rfl
      rotate_left
      · simp only [Act.put, List.setIfInBounds_toArray, List.set_cons_zero, List.set_cons_succ, i64_w, i32_w]
        rfl
      refine pure_ (i := 6) (N := some 25) (v := ?_) (a' := ?_) #[true, true, true, true, true, true, true, false, false] rfl rfl (any_of HT_.out (by kernel_rfl)) (fun _ _ _ h => h) (Or.inl ⟨by rfl, ?_⟩) ?_ ?_
      rotate_left
      · intro w'
        go_simp
        with_reducible rfl
      rotate_left
      · simp only [Act.put, List.setIfInBounds_toArray, List.set_cons_zero, List.set_cons_succ, i64_w, i32_w]
        rfl
      refine pure_ (i := 7) (N := some 26) (v := ?_) (a' := ?_) #[true, true, true, true, true, true, true, true, false] rfl rfl (any_of HT_.out (by kernel_rfl)) (fun _ _ _ h => h) (Or.inl ⟨by rfl, ?_⟩) ?_ ?_
      rotate_left
      · intro w'
        go_simp
        with_reducible rfl
      rotate_left
      · simp only [Act.put, List.setIfInBounds_toArray, List.set_cons_zero, List.set_cons_succ, i64_w, i32_w]
        rfl
      refine last_ (i := 8) (N := none) #[true, true, true, true, true, true, true, true, true] rfl rfl (one_of HT_.out (by kernel_rfl)) (by decide) (fun K hK => ?_)
      have hs42 : w41.cell? ⟨gb218, 0, none⟩ = some (.int .u64 a0_0) := (blk_cell BK218.out 0).trans rfl
      have hfs42 := blk_frozen BK218.out 0
      have hns42_1 := NB219_218.out
      have hns42_2 := NB220_218.out
      have hms42_1 := NB218_219.out
      have hms42_2 := NB218_220.out
      have hs43 : w41.cell? ⟨gb218, 1, none⟩ = some (.int .u64 a0_1) := (blk_cell BK218.out 1).trans rfl
      have hfs43 := blk_frozen BK218.out 1
      have hns43_1 := NB219_218.out
      have hns43_2 := NB220_218.out
      have hms43_1 := NB218_219.out
      have hms43_2 := NB218_220.out
      refine skip_ (w1 := ?_) (by rfl) rfl ?_ ?_
      rotate_left
      · go_simp
        rfl
      refine hK.out _ _ ?_
      clear hK K
      refine done_ (done_of HT_.out (by kernel_rfl)) ?_
      try go_wp2
      go_loopg [] k (fun kq w' => ∃ (x219000_1 : Int) (x219001_1 : Int) (x220000_1 : Int) (x220001_1 : Int), Aside0 (ratio_common.l0 kq ji25 x219000_1 x219001_1 x220000_1 x220001_1 = some (r1, r2)) ∧ Aside0 (kq ≤ k) ∧ Aside0 (w'.heap[gb218]? = some (.cells #[.int .u64 x219000_1, .int .u64 x219001_1] 77 (0, 0))) ∧ Aside0 (w'.heap[gb219]? = some (.cells #[.int .u64 x220000_1, .int .u64 x220001_1] 77 (0, 0))) ∧ Aside0 (w'.heap[gb220]? = some (.cells #[.int .u64 0, .int .u64 0] 77 (0, 0))) ∧ Aside0 (Below w.heap.size w w'))
      case atStart => exact ⟨(t224), (t225), (a1_0), (a1_1), H', ⟨Nat.le_refl _⟩, ⟨by (with_reducible repeat (first | refine blk_drewN ?_ _ | refine blk_drew ?_ | refine blk_alloc ?_ _)); refine blk_put (cs := #[.int .u64 t224, .int .u64 a0_1]) ?_ 1 _ rfl; (with_reducible repeat (first | refine blk_drewN ?_ _ | refine blk_drew ?_ | refine blk_alloc ?_ _)); refine blk_put (cs := #[.int .u64 a0_0, .int .u64 a0_1]) ?_ 0 _ rfl; (with_reducible repeat (first | refine blk_drewN ?_ _ | refine blk_drew ?_ | refine blk_alloc ?_ _)); exact BK218.out⟩, ⟨by (with_reducible repeat (first | refine blk_drewN ?_ _ | refine blk_drew ?_ | refine blk_alloc ?_ _)); refine blk_far ?_ NB219_218.out _; (with_reducible repeat (first | refine blk_drewN ?_ _ | refine blk_drew ?_ | refine blk_alloc ?_ _)); refine blk_far ?_ NB219_218.out _; (with_reducible repeat (first | refine blk_drewN ?_ _ | refine blk_drew ?_ | refine blk_alloc ?_ _)); exact BK219.out⟩, ⟨by (with_reducible repeat (first | refine blk_drewN ?_ _ | refine blk_drew ?_ | refine blk_alloc ?_ _)); refine blk_far ?_ NB220_218.out _; (with_reducible repeat (first | refine blk_drewN ?_ _ | refine blk_drew ?_ | refine blk_alloc ?_ _)); refine blk_far ?_ NB220_218.out _; (with_reducible repeat (first | refine blk_drewN ?_ _ | refine blk_drew ?_ | refine blk_alloc ?_ _)); exact BK220.out⟩, ⟨by repeat (first | (with_reducible first | exact HB.out | apply below_alloc | apply pw_below_drewN | apply below_drew1 | refine below_set ?_ GE218.out | refine below_set ?_ GE219.out | refine below_set ?_ GE220.out) | exact HB.out)⟩⟩
      case round =>
        clear H'
        try clear c1
        try clear c2
        try clear p2
        try clear c3
        try clear c3b0
        try clear c3b1
        try clear c3b2
        try clear c4
        try clear p6
        try clear c7
        try clear c8
        try clear c10
        try clear c13
        try clear c13b0
        try clear c13b1
        try clear c13b2
        try clear c17
        try clear c18
        try clear c20
        try clear c31
        try clear c32
        try clear c33
        try clear c34
        try clear c42
        try clear c43
        try clear hcz11_0
        try clear hcz11_1
        try clear hcz12_0
        try clear hcz12_1
        try clear hcz19_0
        try clear hcz19_1
        try clear hcz21_0
        try clear hcz21_1
        try clear hcz22_0
        try clear hcz22_1
        try clear hcz33_0
        try clear hcz33_1
        try clear hcz35_0
        try clear hcz35_1
        try clear hcz9_0
        try clear hcz9_1
        try clear hfz11_0
        try clear hfz11_1
        try clear hfz12_0
        try clear hfz12_1
        try clear hfz19_0
        try clear hfz19_1
        try clear hfz21_0
        try clear hfz21_1
        try clear hfz22_0
        try clear hfz22_1
        try clear hfz33_0
        try clear hfz33_1
        try clear hfz35_0
        try clear hfz35_1
        try clear hfz9_0
        try clear hfz9_1
        obtain ⟨x219000_1, x219001_1, x220000_1, x220001_1, HA, HK1, BK218, BK219, BK220, HB⟩ := hrel
        cases gk with
        | zero => exact absurd HA.out (by simp [ratio_common.l0])
        | succ k1 =>
          have H := HA.out
          clear HA
          simp only [ratio_common.l0] at H
          by_cases c44 : (!(x220000_1 == 0) || (!(x220001_1 == 0))) = true
          · rw [if_pos c44] at H
            have c44b0 : (!(x220000_1 == 0) || (!(x220001_1 == 0))) = true := c44
            clear c44
            replace H := Option.bind_eq_some_iff.mp H
            obtain ⟨t230, A450, H⟩ := H
            replace H : ((wide_Shift.f k1 x220000_1 x220001_1 (wrap64 (-t230))).bind fun bt231 => ((wide_Cmp.f k1 x219000_1 x219001_1 bt231.1 bt231.2.1).bind fun t234 => (if t234 > 0 then ((wide_Sub.f x219000_1 x219001_1 bt231.1 bt231.2.1).bind fun bt235 => (ratio_common.l0 k1 ji25 bt231.1 bt231.2.1 bt235.1 bt235.2.1)) else ((wide_Sub.f bt231.1 bt231.2.1 x219000_1 x219001_1).bind fun bt238 => (ratio_common.l0 k1 ji25 x219000_1 x219001_1 bt238.1 bt238.2.1))))) = some (r1, r2) := H
            have A45 := Aside0.mk A450
            clear A450
            replace H := Option.bind_eq_some_iff.mp H
            obtain ⟨⟨t231, t232, t233⟩, A460, H⟩ := H
            replace H : ((wide_Cmp.f k1 x219000_1 x219001_1 t231 t232).bind fun t234 => (if t234 > 0 then ((wide_Sub.f x219000_1 x219001_1 t231 t232).bind fun bt235 => (ratio_common.l0 k1 ji25 t231 t232 bt235.1 bt235.2.1)) else ((wide_Sub.f t231 t232 x219000_1 x219001_1).bind fun bt238 => (ratio_common.l0 k1 ji25 x219000_1 x219001_1 bt238.1 bt238.2.1)))) = some (r1, r2) := H
            have A46 := Aside0.mk A460
            clear A460
            replace H := Option.bind_eq_some_iff.mp H
            obtain ⟨t234, A470, H⟩ := H
            replace H : (if t234 > 0 then ((wide_Sub.f x219000_1 x219001_1 t231 t232).bind fun bt235 => (ratio_common.l0 k1 ji25 t231 t232 bt235.1 bt235.2.1)) else ((wide_Sub.f t231 t232 x219000_1 x219001_1).bind fun bt238 => (ratio_common.l0 k1 ji25 x219000_1 x219001_1 bt238.1 bt238.2.1))) = some (r1, r2) := H
            have A47 := Aside0.mk A470
            clear A470
            by_cases c48 : t234 > 0
            · rw [if_pos c48] at H
              have c48b0 : decide (0 < t234) = true := decide_eq_true c48
              clear c48
              replace H := Option.bind_eq_some_iff.mp H
              obtain ⟨⟨t235, t236, t237⟩, A490, H⟩ := H
              replace H : (ratio_common.l0 k1 ji25 t231 t232 t235 t236) = some (r1, r2) := H
              have A49 := Aside0.mk A490
              clear A490
              have H' := Aside0.mk H
              clear H
              have hnb50 := NB219_218.out
              have hnc50 := NB218_219.out
              have hnb51 := NB219_220.out
              have hnc51 := NB220_219.out
              have hcz52_0 : wr.cell? ⟨gb219, 0, none⟩ = some (.int .u64 x220000_1) := (blk_cell BK219.out 0).trans rfl
              have hcz52_1 : wr.cell? ⟨gb219, 1, none⟩ = some (.int .u64 x220001_1) := (blk_cell BK219.out 1).trans rfl
              have hfz52_0 := blk_frozen BK219.out 0
              have hfz52_1 := blk_frozen BK219.out 1
              try go_wp2
              have n0_ := Aside0.mk (blk_drew BK218.out)
              have n1_ := Aside0.mk (blk_drew BK219.out)
              have n2_ := Aside0.mk (blk_drew BK220.out)
              have n3_ := Aside0.mk (below_drew1 HB.out)
              clear BK218
              clear BK219
              clear BK220
              clear HB
              have BK218 := n0_
              have BK219 := n1_
              have BK220 := n2_
              have HB := n3_
              clear n0_ n1_ n2_ n3_
              refine start_ (n := 9) (S := fun w' => w'.cell? ⟨gb219, 0, none⟩ = some (.int .u64 x220000_1) ∧ w'.cell? ⟨gb219, 1, none⟩ = some (.int .u64 x220001_1)) (ds := [8]) #[false, false, false, false, false, false, false, false, false] (by kernel_rfl) rfl rfl ⟨(blk_cell BK219.out 0).trans rfl, (blk_cell BK219.out 1).trans rfl⟩ (fun hHeld => ?_); refine with_tabW ratio_common.tab8 ratio_common.bits8 (fun HT_ HW_ => ?_)
              generalize wr.drew = w53 at BK218 BK219 BK220 HB hHeld ⊢
              refine take_ (i := 0) (N := some 31) (v := ?_) (a' := ?_) #[true, false, false, false, false, false, false, false, false] rfl rfl (take_ofW HT_.out HW_.out (by kernel_rfl)) (fun _ _ _ h => h) (Or.inl ⟨by rfl, ?_⟩) hHeld ?_ ?_
              rotate_left
              · rintro w' ⟨s0, s1⟩
                go_simp
                with_reducible rfl
              rotate_left
              · simp only [Act.put, List.setIfInBounds_toArray, List.set_cons_zero, List.set_cons_succ, i64_w, i32_w]
                rfl
              refine take_ (i := 1) (N := some 32) (v := ?_) (a' := ?_) #[true, true, false, false, false, false, false, false, false] rfl rfl (take_ofW HT_.out HW_.out (by kernel_rfl)) (fun _ _ _ h => h) (Or.inl ⟨by rfl, ?_⟩) hHeld ?_ ?_
              rotate_left
              · rintro w' ⟨s0, s1⟩
                go_simp
                with_reducible rfl
              rotate_left
              · simp only [Act.put, List.setIfInBounds_toArray, List.set_cons_zero, List.set_cons_succ, i64_w, i32_w]
                rfl
              refine one_ (i := 2) (N := some 33) #[true, true, true, false, false, false, false, false, false] rfl rfl (one_of HT_.out (by kernel_rfl)) (by decide) (fun K hK => ?_)
              refine goes_ Tryd.func42 (by kernel_rfl) rfl #[.agg #[.int .u64 x220000_1, .int .u64 x220001_1]] (by rfl) rfl rfl (by (try simp only [List.map_toArray, List.map_cons, List.map_nil]); first | done | rfl | (simp only [List.length_drop, List.length_take]; rfl)) ?_
              with_reducible refine (ratio_twos.calls x220000_1 x220001_1 t230 _ A45.out (hTab.below (by repeat (first | (with_reducible first | exact HB.out | apply below_alloc | apply pw_below_drewN | apply below_drew1 | refine below_set ?_ GE218.out | refine below_set ?_ GE219.out | refine below_set ?_ GE220.out) | exact HB.out)))).mono ?_
              rintro e w54 ⟨rfl, hb⟩
              refine ⟨_, rfl, ?_⟩
              have n0_ := Aside0.mk (blk_below (g := gb218) (o := .cells #[.int .u64 x219000_1, .int .u64 x219001_1] 77 (0, 0)) (by (with_reducible repeat (first | refine blk_drewN ?_ _ | refine blk_drew ?_ | refine blk_alloc ?_ _)); exact BK218.out) hb)
              have n1_ := Aside0.mk (blk_below (g := gb219) (o := .cells #[.int .u64 x220000_1, .int .u64 x220001_1] 77 (0, 0)) (by (with_reducible repeat (first | refine blk_drewN ?_ _ | refine blk_drew ?_ | refine blk_alloc ?_ _)); exact BK219.out) hb)
              have n2_ := Aside0.mk (blk_below (g := gb220) (o := .cells #[.int .u64 0, .int .u64 0] 77 (0, 0)) (by (with_reducible repeat (first | refine blk_drewN ?_ _ | refine blk_drew ?_ | refine blk_alloc ?_ _)); exact BK220.out) hb)
              have n3_ := Aside0.mk (below_step (by repeat (first | (with_reducible first | exact HB.out | apply below_alloc | apply pw_below_drewN | apply below_drew1 | refine below_set ?_ GE218.out | refine below_set ?_ GE219.out | refine below_set ?_ GE220.out) | exact HB.out)) hb)
              clear BK218
              clear BK219
              clear BK220
              clear HB
              have BK218 := n0_
              have BK219 := n1_
              have BK220 := n2_
              have HB := n3_
              clear n0_ n1_ n2_ n3_
              (try clear hb)
              (try clear hb2)
              (try clear hk)
              (try clear hi)
              refine hK.out _ _ ⟨(blk_cell BK219.out 0).trans rfl, (blk_cell BK219.out 1).trans rfl⟩ (fun hHeld => ?_)
              clear hK K
              refine norm_ (a' := ?_) ?_ ?_
              rotate_left
              · show Act.put _ (some 33) _ = _
                simp only [Act.put, List.setIfInBounds_toArray, List.set_cons_zero, List.set_cons_succ, i64_w, i32_w]
                rfl
              refine pure_ (i := 3) (N := some 34) (v := ?_) (a' := ?_) #[true, true, true, true, false, false, false, false, false] rfl rfl (any_of HT_.out (by kernel_rfl)) (fun _ _ _ h => h) (Or.inl ⟨by rfl, ?_⟩) ?_ ?_
              rotate_left
              · intro w'
                go_simp
                with_reducible rfl
              rotate_left
              · simp only [Act.put, List.setIfInBounds_toArray, List.set_cons_zero, List.set_cons_succ, i64_w, i32_w]
                rfl
              refine one_ (i := 4) (N := some 35) #[true, true, true, true, true, false, false, false, false] rfl rfl (one_of HT_.out (by kernel_rfl)) (by decide) (fun K hK => ?_)
              refine goes_ Tryd.func43 (by kernel_rfl) rfl #[.agg #[.int .u64 x220000_1, .int .u64 x220001_1], .int .i64 (wrap64 (-t230))] (by rfl) rfl rfl (by (try simp only [List.map_toArray, List.map_cons, List.map_nil]); first | done | rfl | (simp only [List.length_drop, List.length_take]; rfl)) ?_
              with_reducible refine (wide_Shift.calls k1 x220000_1 x220001_1 (wrap64 (-t230)) t231 t232 t233 _ A46.out).mono ?_
              rintro e w55 ⟨rfl, hb⟩
              refine ⟨_, rfl, ?_⟩
              have n0_ := Aside0.mk (blk_below (g := gb218) (o := .cells #[.int .u64 x219000_1, .int .u64 x219001_1] 77 (0, 0)) (by (with_reducible repeat (first | refine blk_drewN ?_ _ | refine blk_drew ?_ | refine blk_alloc ?_ _)); exact BK218.out) hb)
              have n1_ := Aside0.mk (blk_below (g := gb219) (o := .cells #[.int .u64 x220000_1, .int .u64 x220001_1] 77 (0, 0)) (by (with_reducible repeat (first | refine blk_drewN ?_ _ | refine blk_drew ?_ | refine blk_alloc ?_ _)); exact BK219.out) hb)
              have n2_ := Aside0.mk (blk_below (g := gb220) (o := .cells #[.int .u64 0, .int .u64 0] 77 (0, 0)) (by (with_reducible repeat (first | refine blk_drewN ?_ _ | refine blk_drew ?_ | refine blk_alloc ?_ _)); exact BK220.out) hb)
              have n3_ := Aside0.mk (below_step (by repeat (first | (with_reducible first | exact HB.out | apply below_alloc | apply pw_below_drewN | apply below_drew1 | refine below_set ?_ GE218.out | refine below_set ?_ GE219.out | refine below_set ?_ GE220.out) | exact HB.out)) hb)
              clear BK218
              clear BK219
              clear BK220
              clear HB
              have BK218 := n0_
              have BK219 := n1_
              have BK220 := n2_
              have HB := n3_
              clear n0_ n1_ n2_ n3_
              (try clear hb)
              (try clear hb2)
              (try clear hk)
              (try clear hi)
              refine hK.out _ _ ⟨(blk_cell BK219.out 0).trans rfl, (blk_cell BK219.out 1).trans rfl⟩ (fun hHeld => ?_)
              clear hK K
              refine norm_ (a' := ?_) ?_ ?_
              rotate_left
              · show Act.put _ (some 35) _ = _
                simp only [Act.put, List.setIfInBounds_toArray, List.set_cons_zero, List.set_cons_succ, i64_w, i32_w]
                rfl
              refine pure_ (i := 5) (N := some 30) (v := ?_) (a' := ?_) #[true, true, true, true, true, true, false, false, false] rfl rfl (any_of HT_.out (by kernel_rfl)) (fun _ _ _ h => h) (Or.inl ⟨by rfl, ?_⟩) ?_ ?_
              rotate_left
              · intro w'
                go_simp
                with_reducible rfl
              rotate_left
              · simp only [Act.put, List.setIfInBounds_toArray, List.set_cons_zero, List.set_cons_succ, i64_w, i32_w]
                rfl
              refine pure_ (i := 6) (N := some 36) (v := ?_) (a' := ?_) #[true, true, true, true, true, true, true, false, false] rfl rfl (any_of HT_.out (by kernel_rfl)) (fun _ _ _ h => h) (Or.inl ⟨by rfl, ?_⟩) ?_ ?_
              rotate_left
              · intro w'
                go_simp
                with_reducible rfl
              rotate_left
              · simp only [Act.put, List.setIfInBounds_toArray, List.set_cons_zero, List.set_cons_succ, i64_w, i32_w]
                rfl
              refine pure_ (i := 7) (N := some 37) (v := ?_) (a' := ?_) #[true, true, true, true, true, true, true, true, false] rfl rfl (any_of HT_.out (by kernel_rfl)) (fun _ _ _ h => h) (Or.inl ⟨by rfl, ?_⟩) ?_ ?_
              rotate_left
              · intro w'
                go_simp
                with_reducible rfl
              rotate_left
              · simp only [Act.put, List.setIfInBounds_toArray, List.set_cons_zero, List.set_cons_succ, i64_w, i32_w]
                rfl
              refine last_ (i := 8) (N := none) #[true, true, true, true, true, true, true, true, true] rfl rfl (one_of HT_.out (by kernel_rfl)) (by decide) (fun K hK => ?_)
              have hs56 : w55.cell? ⟨gb219, 0, none⟩ = some (.int .u64 x220000_1) := (blk_cell BK219.out 0).trans rfl
              have hfs56 := blk_frozen BK219.out 0
              have hns56_0 := NB218_219.out
              have hns56_2 := NB220_219.out
              have hms56_0 := NB219_218.out
              have hms56_2 := NB219_220.out
              have hs57 : w55.cell? ⟨gb219, 1, none⟩ = some (.int .u64 x220001_1) := (blk_cell BK219.out 1).trans rfl
              have hfs57 := blk_frozen BK219.out 1
              have hns57_0 := NB218_219.out
              have hns57_2 := NB220_219.out
              have hms57_0 := NB219_218.out
              have hms57_2 := NB219_220.out
              refine skip_ (w1 := ?_) (by rfl) rfl ?_ ?_
              rotate_left
              · go_simp
                rfl
              refine hK.out _ _ ?_
              clear hK K
              refine done_ (done_of HT_.out (by kernel_rfl)) ?_
              have hnb58 := NB218_220.out
              have hnc58 := NB220_218.out
              have hcz59_0 : w55.cell? ⟨gb218, 0, none⟩ = some (.int .u64 x219000_1) := (blk_cell BK218.out 0).trans rfl
              have hcz59_1 : w55.cell? ⟨gb218, 1, none⟩ = some (.int .u64 x219001_1) := (blk_cell BK218.out 1).trans rfl
              have hfz59_0 := blk_frozen BK218.out 0
              have hfz59_1 := blk_frozen BK218.out 1
              have hcz60_0 : w55.cell? ⟨gb219, 0, none⟩ = some (.int .u64 x220000_1) := (blk_cell BK219.out 0).trans rfl
              have hcz60_1 : w55.cell? ⟨gb219, 1, none⟩ = some (.int .u64 x220001_1) := (blk_cell BK219.out 1).trans rfl
              have hfz60_0 := blk_frozen BK219.out 0
              have hfz60_1 := blk_frozen BK219.out 1
              try go_wp2_with (first | ((with_reducible refine gate_callee (f := 44) rfl ?_); refine goesL_ (some 40) rfl rfl Tryd.func44 (by kernel_rfl) rfl #[.agg #[.int .u64 x219000_1, .int .u64 x219001_1], .agg #[.int .u64 t231, .int .u64 t232]] rfl (by (try simp only [List.map_toArray, List.map_cons, List.map_nil]); first | done | rfl | (simp only [List.length_drop, List.length_take]; rfl)) ?_; (with_reducible refine (wide_Cmp.calls k1 x219000_1 x219001_1 t231 t232 t234 _ A47.out).mono ?_); rintro e w61 ⟨rfl, hb⟩; refine ⟨_, rfl, ?_⟩; have n0_ := Aside0.mk (blk_below (g := gb218) (o := .cells #[.int .u64 x219000_1, .int .u64 x219001_1] 77 (0, 0)) (by (with_reducible repeat (first | refine blk_drewN ?_ _ | refine blk_drew ?_ | refine blk_alloc ?_ _)); refine blk_far ?_ NB218_219.out _; (with_reducible repeat (first | refine blk_drewN ?_ _ | refine blk_drew ?_ | refine blk_alloc ?_ _)); refine blk_far ?_ NB218_219.out _; (with_reducible repeat (first | refine blk_drewN ?_ _ | refine blk_drew ?_ | refine blk_alloc ?_ _)); exact BK218.out) hb); have n1_ := Aside0.mk (blk_below (g := gb219) (o := .cells #[.int .u64 t231, .int .u64 t232] 77 (0, 0)) (by (with_reducible repeat (first | refine blk_drewN ?_ _ | refine blk_drew ?_ | refine blk_alloc ?_ _)); refine blk_put (cs := #[.int .u64 t231, .int .u64 x220001_1]) ?_ 1 _ rfl; (with_reducible repeat (first | refine blk_drewN ?_ _ | refine blk_drew ?_ | refine blk_alloc ?_ _)); refine blk_put (cs := #[.int .u64 x220000_1, .int .u64 x220001_1]) ?_ 0 _ rfl; (with_reducible repeat (first | refine blk_drewN ?_ _ | refine blk_drew ?_ | refine blk_alloc ?_ _)); exact BK219.out) hb); have n2_ := Aside0.mk (blk_below (g := gb220) (o := .cells #[.int .u64 0, .int .u64 0] 77 (0, 0)) (by (with_reducible repeat (first | refine blk_drewN ?_ _ | refine blk_drew ?_ | refine blk_alloc ?_ _)); refine blk_far ?_ NB220_219.out _; (with_reducible repeat (first | refine blk_drewN ?_ _ | refine blk_drew ?_ | refine blk_alloc ?_ _)); refine blk_far ?_ NB220_219.out _; (with_reducible repeat (first | refine blk_drewN ?_ _ | refine blk_drew ?_ | refine blk_alloc ?_ _)); exact BK220.out) hb); have n3_ := Aside0.mk (below_step (by repeat (first | (with_reducible first | exact HB.out | apply below_alloc | apply pw_below_drewN | apply below_drew1 | refine below_set ?_ GE218.out | refine below_set ?_ GE219.out | refine below_set ?_ GE220.out) | exact HB.out)) hb); clear BK218; clear BK219; clear BK220; clear HB; have BK218 := n0_; have BK219 := n1_; have BK220 := n2_; have HB := n3_; clear n0_ n1_ n2_ n3_; (try clear hb); (try clear hb2); (try clear hk); (try clear hi); have hcz62_0 : w61.cell? ⟨gb219, 0, none⟩ = some (.int .u64 t231) := (blk_cell BK219.out 0).trans rfl; have hcz62_1 : w61.cell? ⟨gb219, 1, none⟩ = some (.int .u64 t232) := (blk_cell BK219.out 1).trans rfl; have hfz62_0 := blk_frozen BK219.out 0; have hfz62_1 := blk_frozen BK219.out 1; have hcz63_0 : w61.cell? ⟨gb218, 0, none⟩ = some (.int .u64 x219000_1) := (blk_cell BK218.out 0).trans rfl; have hcz63_1 : w61.cell? ⟨gb218, 1, none⟩ = some (.int .u64 x219001_1) := (blk_cell BK218.out 1).trans rfl; have hfz63_0 := blk_frozen BK218.out 0; have hfz63_1 := blk_frozen BK218.out 1) | ((with_reducible refine gate_callee (f := 45) rfl ?_); refine goesL_ (some 47) rfl rfl Tryd.func45 (by kernel_rfl) rfl #[.agg #[.int .u64 x219000_1, .int .u64 x219001_1], .agg #[.int .u64 t231, .int .u64 t232]] rfl (by (try simp only [List.map_toArray, List.map_cons, List.map_nil]); first | done | rfl | (simp only [List.length_drop, List.length_take]; rfl)) ?_; (with_reducible refine (wide_Sub.calls x219000_1 x219001_1 t231 t232 t235 t236 t237 _ A49.out).mono ?_); rintro e w64 ⟨rfl, hb⟩; refine ⟨_, rfl, ?_⟩; have n0_ := Aside0.mk (blk_below (g := gb218) (o := .cells #[.int .u64 t231, .int .u64 t232] 77 (0, 0)) (by (with_reducible repeat (first | refine blk_drewN ?_ _ | refine blk_drew ?_ | refine blk_alloc ?_ _)); refine blk_far ?_ NB218_219.out _; (with_reducible repeat (first | refine blk_drewN ?_ _ | refine blk_drew ?_ | refine blk_alloc ?_ _)); refine blk_far ?_ NB218_219.out _; (with_reducible repeat (first | refine blk_drewN ?_ _ | refine blk_drew ?_ | refine blk_alloc ?_ _)); refine blk_put (cs := #[.int .u64 t231, .int .u64 x219001_1]) ?_ 1 _ rfl; (with_reducible repeat (first | refine blk_drewN ?_ _ | refine blk_drew ?_ | refine blk_alloc ?_ _)); refine blk_put (cs := #[.int .u64 x219000_1, .int .u64 x219001_1]) ?_ 0 _ rfl; (with_reducible repeat (first | refine blk_drewN ?_ _ | refine blk_drew ?_ | refine blk_alloc ?_ _)); exact BK218.out) hb); have n1_ := Aside0.mk (blk_below (g := gb219) (o := .cells #[.int .u64 x219000_1, .int .u64 x219001_1] 77 (0, 0)) (by (with_reducible repeat (first | refine blk_drewN ?_ _ | refine blk_drew ?_ | refine blk_alloc ?_ _)); refine blk_put (cs := #[.int .u64 x219000_1, .int .u64 t232]) ?_ 1 _ rfl; (with_reducible repeat (first | refine blk_drewN ?_ _ | refine blk_drew ?_ | refine blk_alloc ?_ _)); refine blk_put (cs := #[.int .u64 t231, .int .u64 t232]) ?_ 0 _ rfl; (with_reducible repeat (first | refine blk_drewN ?_ _ | refine blk_drew ?_ | refine blk_alloc ?_ _)); refine blk_far ?_ NB219_218.out _; (with_reducible repeat (first | refine blk_drewN ?_ _ | refine blk_drew ?_ | refine blk_alloc ?_ _)); refine blk_far ?_ NB219_218.out _; (with_reducible repeat (first | refine blk_drewN ?_ _ | refine blk_drew ?_ | refine blk_alloc ?_ _)); exact BK219.out) hb); have n2_ := Aside0.mk (blk_below (g := gb220) (o := .cells #[.int .u64 0, .int .u64 0] 77 (0, 0)) (by (with_reducible repeat (first | refine blk_drewN ?_ _ | refine blk_drew ?_ | refine blk_alloc ?_ _)); refine blk_far ?_ NB220_219.out _; (with_reducible repeat (first | refine blk_drewN ?_ _ | refine blk_drew ?_ | refine blk_alloc ?_ _)); refine blk_far ?_ NB220_219.out _; (with_reducible repeat (first | refine blk_drewN ?_ _ | refine blk_drew ?_ | refine blk_alloc ?_ _)); refine blk_far ?_ NB220_218.out _; (with_reducible repeat (first | refine blk_drewN ?_ _ | refine blk_drew ?_ | refine blk_alloc ?_ _)); refine blk_far ?_ NB220_218.out _; (with_reducible repeat (first | refine blk_drewN ?_ _ | refine blk_drew ?_ | refine blk_alloc ?_ _)); exact BK220.out) hb); have n3_ := Aside0.mk (below_step (by repeat (first | (with_reducible first | exact HB.out | apply below_alloc | apply pw_below_drewN | apply below_drew1 | refine below_set ?_ GE218.out | refine below_set ?_ GE219.out | refine below_set ?_ GE220.out) | exact HB.out)) hb); clear BK218; clear BK219; clear BK220; clear HB; have BK218 := n0_; have BK219 := n1_; have BK220 := n2_; have HB := n3_; clear n0_ n1_ n2_ n3_; (try clear hb); (try clear hb2); (try clear hk); (try clear hi); have hcz65_0 : w64.cell? ⟨gb219, 0, none⟩ = some (.int .u64 x219000_1) := (blk_cell BK219.out 0).trans rfl; have hcz65_1 : w64.cell? ⟨gb219, 1, none⟩ = some (.int .u64 x219001_1) := (blk_cell BK219.out 1).trans rfl; have hfz65_0 := blk_frozen BK219.out 0; have hfz65_1 := blk_frozen BK219.out 1))
              go_roundg k1
              case measure => have := HK1.out; omega
              case rel => exact ⟨(t231), (t232), (t235), (t236), H', ⟨by have := HK1.out; omega⟩, ⟨by (with_reducible repeat (first | refine blk_drewN ?_ _ | refine blk_drew ?_ | refine blk_alloc ?_ _)); refine blk_far ?_ NB218_219.out _; (with_reducible repeat (first | refine blk_drewN ?_ _ | refine blk_drew ?_ | refine blk_alloc ?_ _)); refine blk_far ?_ NB218_219.out _; (with_reducible repeat (first | refine blk_drewN ?_ _ | refine blk_drew ?_ | refine blk_alloc ?_ _)); exact BK218.out⟩, ⟨by (with_reducible repeat (first | refine blk_drewN ?_ _ | refine blk_drew ?_ | refine blk_alloc ?_ _)); refine blk_put (cs := #[.int .u64 t235, .int .u64 x219001_1]) ?_ 1 _ rfl; (with_reducible repeat (first | refine blk_drewN ?_ _ | refine blk_drew ?_ | refine blk_alloc ?_ _)); refine blk_put (cs := #[.int .u64 x219000_1, .int .u64 x219001_1]) ?_ 0 _ rfl; (with_reducible repeat (first | refine blk_drewN ?_ _ | refine blk_drew ?_ | refine blk_alloc ?_ _)); exact BK219.out⟩, ⟨by (with_reducible repeat (first | refine blk_drewN ?_ _ | refine blk_drew ?_ | refine blk_alloc ?_ _)); refine blk_far ?_ NB220_219.out _; (with_reducible repeat (first | refine blk_drewN ?_ _ | refine blk_drew ?_ | refine blk_alloc ?_ _)); refine blk_far ?_ NB220_219.out _; (with_reducible repeat (first | refine blk_drewN ?_ _ | refine blk_drew ?_ | refine blk_alloc ?_ _)); exact BK220.out⟩, ⟨by repeat (first | (with_reducible first | exact HB.out | apply below_alloc | apply pw_below_drewN | apply below_drew1 | refine below_set ?_ GE218.out | refine below_set ?_ GE219.out | refine below_set ?_ GE220.out) | exact HB.out)⟩⟩
            · rw [if_neg c48] at H
              have c48b0 : decide (0 < t234) = false := decide_eq_false c48
              clear c48
              replace H := Option.bind_eq_some_iff.mp H
              obtain ⟨⟨t238, t239, t240⟩, A660, H⟩ := H
              replace H : (ratio_common.l0 k1 ji25 x219000_1 x219001_1 t238 t239) = some (r1, r2) := H
              have A66 := Aside0.mk A660
              clear A660
              have H' := Aside0.mk H
              clear H
              have hnb67 := NB219_218.out
              have hnc67 := NB218_219.out
              have hnb68 := NB219_220.out
              have hnc68 := NB220_219.out
              have hcz69_0 : wr.cell? ⟨gb219, 0, none⟩ = some (.int .u64 x220000_1) := (blk_cell BK219.out 0).trans rfl
              have hcz69_1 : wr.cell? ⟨gb219, 1, none⟩ = some (.int .u64 x220001_1) := (blk_cell BK219.out 1).trans rfl
              have hfz69_0 := blk_frozen BK219.out 0
              have hfz69_1 := blk_frozen BK219.out 1
              try go_wp2
              have n0_ := Aside0.mk (blk_drew BK218.out)
              have n1_ := Aside0.mk (blk_drew BK219.out)
              have n2_ := Aside0.mk (blk_drew BK220.out)
              have n3_ := Aside0.mk (below_drew1 HB.out)
              clear BK218
              clear BK219
              clear BK220
              clear HB
              have BK218 := n0_
              have BK219 := n1_
              have BK220 := n2_
              have HB := n3_
              clear n0_ n1_ n2_ n3_
              refine start_ (n := 9) (S := fun w' => w'.cell? ⟨gb219, 0, none⟩ = some (.int .u64 x220000_1) ∧ w'.cell? ⟨gb219, 1, none⟩ = some (.int .u64 x220001_1)) (ds := [8]) #[false, false, false, false, false, false, false, false, false] (by kernel_rfl) rfl rfl ⟨(blk_cell BK219.out 0).trans rfl, (blk_cell BK219.out 1).trans rfl⟩ (fun hHeld => ?_); refine with_tabW ratio_common.tab8 ratio_common.bits8 (fun HT_ HW_ => ?_)
              generalize wr.drew = w70 at BK218 BK219 BK220 HB hHeld ⊢
              refine take_ (i := 0) (N := some 31) (v := ?_) (a' := ?_) #[true, false, false, false, false, false, false, false, false] rfl rfl (take_ofW HT_.out HW_.out (by kernel_rfl)) (fun _ _ _ h => h) (Or.inl ⟨by rfl, ?_⟩) hHeld ?_ ?_
              rotate_left
              · rintro w' ⟨s0, s1⟩
                go_simp
                with_reducible rfl
              rotate_left
              · simp only [Act.put, List.setIfInBounds_toArray, List.set_cons_zero, List.set_cons_succ, i64_w, i32_w]
                rfl
              refine take_ (i := 1) (N := some 32) (v := ?_) (a' := ?_) #[true, true, false, false, false, false, false, false, false] rfl rfl (take_ofW HT_.out HW_.out (by kernel_rfl)) (fun _ _ _ h => h) (Or.inl ⟨by rfl, ?_⟩) hHeld ?_ ?_
              rotate_left
              · rintro w' ⟨s0, s1⟩
                go_simp
                with_reducible rfl
              rotate_left
              · simp only [Act.put, List.setIfInBounds_toArray, List.set_cons_zero, List.set_cons_succ, i64_w, i32_w]
                rfl
              refine one_ (i := 2) (N := some 33) #[true, true, true, false, false, false, false, false, false] rfl rfl (one_of HT_.out (by kernel_rfl)) (by decide) (fun K hK => ?_)
              refine goes_ Tryd.func42 (by kernel_rfl) rfl #[.agg #[.int .u64 x220000_1, .int .u64 x220001_1]] (by rfl) rfl rfl (by (try simp only [List.map_toArray, List.map_cons, List.map_nil]); first | done | rfl | (simp only [List.length_drop, List.length_take]; rfl)) ?_
              with_reducible refine (ratio_twos.calls x220000_1 x220001_1 t230 _ A45.out (hTab.below (by repeat (first | (with_reducible first | exact HB.out | apply below_alloc | apply pw_below_drewN | apply below_drew1 | refine below_set ?_ GE218.out | refine below_set ?_ GE219.out | refine below_set ?_ GE220.out) | exact HB.out)))).mono ?_
              rintro e w71 ⟨rfl, hb⟩
              refine ⟨_, rfl, ?_⟩
              have n0_ := Aside0.mk (blk_below (g := gb218) (o := .cells #[.int .u64 x219000_1, .int .u64 x219001_1] 77 (0, 0)) (by (with_reducible repeat (first | refine blk_drewN ?_ _ | refine blk_drew ?_ | refine blk_alloc ?_ _)); exact BK218.out) hb)
              have n1_ := Aside0.mk (blk_below (g := gb219) (o := .cells #[.int .u64 x220000_1, .int .u64 x220001_1] 77 (0, 0)) (by (with_reducible repeat (first | refine blk_drewN ?_ _ | refine blk_drew ?_ | refine blk_alloc ?_ _)); exact BK219.out) hb)
              have n2_ := Aside0.mk (blk_below (g := gb220) (o := .cells #[.int .u64 0, .int .u64 0] 77 (0, 0)) (by (with_reducible repeat (first | refine blk_drewN ?_ _ | refine blk_drew ?_ | refine blk_alloc ?_ _)); exact BK220.out) hb)
              have n3_ := Aside0.mk (below_step (by repeat (first | (with_reducible first | exact HB.out | apply below_alloc | apply pw_below_drewN | apply below_drew1 | refine below_set ?_ GE218.out | refine below_set ?_ GE219.out | refine below_set ?_ GE220.out) | exact HB.out)) hb)
              clear BK218
              clear BK219
              clear BK220
              clear HB
              have BK218 := n0_
              have BK219 := n1_
              have BK220 := n2_
              have HB := n3_
              clear n0_ n1_ n2_ n3_
              (try clear hb)
              (try clear hb2)
              (try clear hk)
              (try clear hi)
              refine hK.out _ _ ⟨(blk_cell BK219.out 0).trans rfl, (blk_cell BK219.out 1).trans rfl⟩ (fun hHeld => ?_)
              clear hK K
              refine norm_ (a' := ?_) ?_ ?_
              rotate_left
              · show Act.put _ (some 33) _ = _
                simp only [Act.put, List.setIfInBounds_toArray, List.set_cons_zero, List.set_cons_succ, i64_w, i32_w]
                rfl
              refine pure_ (i := 3) (N := some 34) (v := ?_) (a' := ?_) #[true, true, true, true, false, false, false, false, false] rfl rfl (any_of HT_.out (by kernel_rfl)) (fun _ _ _ h => h) (Or.inl ⟨by rfl, ?_⟩) ?_ ?_
              rotate_left
              · intro w'
                go_simp
                with_reducible rfl
              rotate_left
              · simp only [Act.put, List.setIfInBounds_toArray, List.set_cons_zero, List.set_cons_succ, i64_w, i32_w]
                rfl
              refine one_ (i := 4) (N := some 35) #[true, true, true, true, true, false, false, false, false] rfl rfl (one_of HT_.out (by kernel_rfl)) (by decide) (fun K hK => ?_)
              refine goes_ Tryd.func43 (by kernel_rfl) rfl #[.agg #[.int .u64 x220000_1, .int .u64 x220001_1], .int .i64 (wrap64 (-t230))] (by rfl) rfl rfl (by (try simp only [List.map_toArray, List.map_cons, List.map_nil]); first | done | rfl | (simp only [List.length_drop, List.length_take]; rfl)) ?_
              with_reducible refine (wide_Shift.calls k1 x220000_1 x220001_1 (wrap64 (-t230)) t231 t232 t233 _ A46.out).mono ?_
              rintro e w72 ⟨rfl, hb⟩
              refine ⟨_, rfl, ?_⟩
              have n0_ := Aside0.mk (blk_below (g := gb218) (o := .cells #[.int .u64 x219000_1, .int .u64 x219001_1] 77 (0, 0)) (by (with_reducible repeat (first | refine blk_drewN ?_ _ | refine blk_drew ?_ | refine blk_alloc ?_ _)); exact BK218.out) hb)
              have n1_ := Aside0.mk (blk_below (g := gb219) (o := .cells #[.int .u64 x220000_1, .int .u64 x220001_1] 77 (0, 0)) (by (with_reducible repeat (first | refine blk_drewN ?_ _ | refine blk_drew ?_ | refine blk_alloc ?_ _)); exact BK219.out) hb)
              have n2_ := Aside0.mk (blk_below (g := gb220) (o := .cells #[.int .u64 0, .int .u64 0] 77 (0, 0)) (by (with_reducible repeat (first | refine blk_drewN ?_ _ | refine blk_drew ?_ | refine blk_alloc ?_ _)); exact BK220.out) hb)
              have n3_ := Aside0.mk (below_step (by repeat (first | (with_reducible first | exact HB.out | apply below_alloc | apply pw_below_drewN | apply below_drew1 | refine below_set ?_ GE218.out | refine below_set ?_ GE219.out | refine below_set ?_ GE220.out) | exact HB.out)) hb)
              clear BK218
              clear BK219
              clear BK220
              clear HB
              have BK218 := n0_
              have BK219 := n1_
              have BK220 := n2_
              have HB := n3_
              clear n0_ n1_ n2_ n3_
              (try clear hb)
              (try clear hb2)
              (try clear hk)
              (try clear hi)
              refine hK.out _ _ ⟨(blk_cell BK219.out 0).trans rfl, (blk_cell BK219.out 1).trans rfl⟩ (fun hHeld => ?_)
              clear hK K
              refine norm_ (a' := ?_) ?_ ?_
              rotate_left
              · show Act.put _ (some 35) _ = _
                simp only [Act.put, List.setIfInBounds_toArray, List.set_cons_zero, List.set_cons_succ, i64_w, i32_w]
                rfl
              refine pure_ (i := 5) (N := some 30) (v := ?_) (a' := ?_) #[true, true, true, true, true, true, false, false, false] rfl rfl (any_of HT_.out (by kernel_rfl)) (fun _ _ _ h => h) (Or.inl ⟨by rfl, ?_⟩) ?_ ?_
              rotate_left
              · intro w'
                go_simp
                with_reducible rfl
              rotate_left
              · simp only [Act.put, List.setIfInBounds_toArray, List.set_cons_zero, List.set_cons_succ, i64_w, i32_w]
                rfl
              refine pure_ (i := 6) (N := some 36) (v := ?_) (a' := ?_) #[true, true, true, true, true, true, true, false, false] rfl rfl (any_of HT_.out (by kernel_rfl)) (fun _ _ _ h => h) (Or.inl ⟨by rfl, ?_⟩) ?_ ?_
              rotate_left
              · intro w'
                go_simp
                with_reducible rfl
              rotate_left
              · simp only [Act.put, List.setIfInBounds_toArray, List.set_cons_zero, List.set_cons_succ, i64_w, i32_w]
                rfl
              refine pure_ (i := 7) (N := some 37) (v := ?_) (a' := ?_) #[true, true, true, true, true, true, true, true, false] rfl rfl (any_of HT_.out (by kernel_rfl)) (fun _ _ _ h => h) (Or.inl ⟨by rfl, ?_⟩) ?_ ?_
              rotate_left
              · intro w'
                go_simp
                with_reducible rfl
              rotate_left
              · simp only [Act.put, List.setIfInBounds_toArray, List.set_cons_zero, List.set_cons_succ, i64_w, i32_w]
                rfl
              refine last_ (i := 8) (N := none) #[true, true, true, true, true, true, true, true, true] rfl rfl (one_of HT_.out (by kernel_rfl)) (by decide) (fun K hK => ?_)
              have hs73 : w72.cell? ⟨gb219, 0, none⟩ = some (.int .u64 x220000_1) := (blk_cell BK219.out 0).trans rfl
              have hfs73 := blk_frozen BK219.out 0
              have hns73_0 := NB218_219.out
              have hns73_2 := NB220_219.out
              have hms73_0 := NB219_218.out
              have hms73_2 := NB219_220.out
              have hs74 : w72.cell? ⟨gb219, 1, none⟩ = some (.int .u64 x220001_1) := (blk_cell BK219.out 1).trans rfl
              have hfs74 := blk_frozen BK219.out 1
              have hns74_0 := NB218_219.out
              have hns74_2 := NB220_219.out
              have hms74_0 := NB219_218.out
              have hms74_2 := NB219_220.out
              refine skip_ (w1 := ?_) (by rfl) rfl ?_ ?_
              rotate_left
              · go_simp
                rfl
              refine hK.out _ _ ?_
              clear hK K
              refine done_ (done_of HT_.out (by kernel_rfl)) ?_
              have hnb75 := NB218_220.out
              have hnc75 := NB220_218.out
              have hcz76_0 : w72.cell? ⟨gb218, 0, none⟩ = some (.int .u64 x219000_1) := (blk_cell BK218.out 0).trans rfl
              have hcz76_1 : w72.cell? ⟨gb218, 1, none⟩ = some (.int .u64 x219001_1) := (blk_cell BK218.out 1).trans rfl
              have hfz76_0 := blk_frozen BK218.out 0
              have hfz76_1 := blk_frozen BK218.out 1
              have hcz77_0 : w72.cell? ⟨gb219, 0, none⟩ = some (.int .u64 x220000_1) := (blk_cell BK219.out 0).trans rfl
              have hcz77_1 : w72.cell? ⟨gb219, 1, none⟩ = some (.int .u64 x220001_1) := (blk_cell BK219.out 1).trans rfl
              have hfz77_0 := blk_frozen BK219.out 0
              have hfz77_1 := blk_frozen BK219.out 1
              try go_wp2_with (first | ((with_reducible refine gate_callee (f := 44) rfl ?_); refine goesL_ (some 40) rfl rfl Tryd.func44 (by kernel_rfl) rfl #[.agg #[.int .u64 x219000_1, .int .u64 x219001_1], .agg #[.int .u64 t231, .int .u64 t232]] rfl (by (try simp only [List.map_toArray, List.map_cons, List.map_nil]); first | done | rfl | (simp only [List.length_drop, List.length_take]; rfl)) ?_; (with_reducible refine (wide_Cmp.calls k1 x219000_1 x219001_1 t231 t232 t234 _ A47.out).mono ?_); rintro e w78 ⟨rfl, hb⟩; refine ⟨_, rfl, ?_⟩; have n0_ := Aside0.mk (blk_below (g := gb218) (o := .cells #[.int .u64 x219000_1, .int .u64 x219001_1] 77 (0, 0)) (by (with_reducible repeat (first | refine blk_drewN ?_ _ | refine blk_drew ?_ | refine blk_alloc ?_ _)); refine blk_far ?_ NB218_219.out _; (with_reducible repeat (first | refine blk_drewN ?_ _ | refine blk_drew ?_ | refine blk_alloc ?_ _)); refine blk_far ?_ NB218_219.out _; (with_reducible repeat (first | refine blk_drewN ?_ _ | refine blk_drew ?_ | refine blk_alloc ?_ _)); exact BK218.out) hb); have n1_ := Aside0.mk (blk_below (g := gb219) (o := .cells #[.int .u64 t231, .int .u64 t232] 77 (0, 0)) (by (with_reducible repeat (first | refine blk_drewN ?_ _ | refine blk_drew ?_ | refine blk_alloc ?_ _)); refine blk_put (cs := #[.int .u64 t231, .int .u64 x220001_1]) ?_ 1 _ rfl; (with_reducible repeat (first | refine blk_drewN ?_ _ | refine blk_drew ?_ | refine blk_alloc ?_ _)); refine blk_put (cs := #[.int .u64 x220000_1, .int .u64 x220001_1]) ?_ 0 _ rfl; (with_reducible repeat (first | refine blk_drewN ?_ _ | refine blk_drew ?_ | refine blk_alloc ?_ _)); exact BK219.out) hb); have n2_ := Aside0.mk (blk_below (g := gb220) (o := .cells #[.int .u64 0, .int .u64 0] 77 (0, 0)) (by (with_reducible repeat (first | refine blk_drewN ?_ _ | refine blk_drew ?_ | refine blk_alloc ?_ _)); refine blk_far ?_ NB220_219.out _; (with_reducible repeat (first | refine blk_drewN ?_ _ | refine blk_drew ?_ | refine blk_alloc ?_ _)); refine blk_far ?_ NB220_219.out _; (with_reducible repeat (first | refine blk_drewN ?_ _ | refine blk_drew ?_ | refine blk_alloc ?_ _)); exact BK220.out) hb); have n3_ := Aside0.mk (below_step (by repeat (first | (with_reducible first | exact HB.out | apply below_alloc | apply pw_below_drewN | apply below_drew1 | refine below_set ?_ GE218.out | refine below_set ?_ GE219.out | refine below_set ?_ GE220.out) | exact HB.out)) hb); clear BK218; clear BK219; clear BK220; clear HB; have BK218 := n0_; have BK219 := n1_; have BK220 := n2_; have HB := n3_; clear n0_ n1_ n2_ n3_; (try clear hb); (try clear hb2); (try clear hk); (try clear hi); have hcz79_0 : w78.cell? ⟨gb219, 0, none⟩ = some (.int .u64 t231) := (blk_cell BK219.out 0).trans rfl; have hcz79_1 : w78.cell? ⟨gb219, 1, none⟩ = some (.int .u64 t232) := (blk_cell BK219.out 1).trans rfl; have hfz79_0 := blk_frozen BK219.out 0; have hfz79_1 := blk_frozen BK219.out 1; have hcz80_0 : w78.cell? ⟨gb218, 0, none⟩ = some (.int .u64 x219000_1) := (blk_cell BK218.out 0).trans rfl; have hcz80_1 : w78.cell? ⟨gb218, 1, none⟩ = some (.int .u64 x219001_1) := (blk_cell BK218.out 1).trans rfl; have hfz80_0 := blk_frozen BK218.out 0; have hfz80_1 := blk_frozen BK218.out 1) | ((with_reducible refine gate_callee (f := 45) rfl ?_); refine goesL_ (some 47) rfl rfl Tryd.func45 (by kernel_rfl) rfl #[.agg #[.int .u64 t231, .int .u64 t232], .agg #[.int .u64 x219000_1, .int .u64 x219001_1]] rfl (by (try simp only [List.map_toArray, List.map_cons, List.map_nil]); first | done | rfl | (simp only [List.length_drop, List.length_take]; rfl)) ?_; (with_reducible refine (wide_Sub.calls t231 t232 x219000_1 x219001_1 t238 t239 t240 _ A66.out).mono ?_); rintro e w81 ⟨rfl, hb⟩; refine ⟨_, rfl, ?_⟩; have n0_ := Aside0.mk (blk_below (g := gb218) (o := .cells #[.int .u64 x219000_1, .int .u64 x219001_1] 77 (0, 0)) (by (with_reducible repeat (first | refine blk_drewN ?_ _ | refine blk_drew ?_ | refine blk_alloc ?_ _)); exact BK218.out) hb); have n1_ := Aside0.mk (blk_below (g := gb219) (o := .cells #[.int .u64 t231, .int .u64 t232] 77 (0, 0)) (by (with_reducible repeat (first | refine blk_drewN ?_ _ | refine blk_drew ?_ | refine blk_alloc ?_ _)); exact BK219.out) hb); have n2_ := Aside0.mk (blk_below (g := gb220) (o := .cells #[.int .u64 0, .int .u64 0] 77 (0, 0)) (by (with_reducible repeat (first | refine blk_drewN ?_ _ | refine blk_drew ?_ | refine blk_alloc ?_ _)); exact BK220.out) hb); have n3_ := Aside0.mk (below_step (by repeat (first | (with_reducible first | exact HB.out | apply below_alloc | apply pw_below_drewN | apply below_drew1 | refine below_set ?_ GE218.out | refine below_set ?_ GE219.out | refine below_set ?_ GE220.out) | exact HB.out)) hb); clear BK218; clear BK219; clear BK220; clear HB; have BK218 := n0_; have BK219 := n1_; have BK220 := n2_; have HB := n3_; clear n0_ n1_ n2_ n3_; (try clear hb); (try clear hb2); (try clear hk); (try clear hi); have hcz82_0 : w81.cell? ⟨gb219, 0, none⟩ = some (.int .u64 t231) := (blk_cell BK219.out 0).trans rfl; have hcz82_1 : w81.cell? ⟨gb219, 1, none⟩ = some (.int .u64 t232) := (blk_cell BK219.out 1).trans rfl; have hfz82_0 := blk_frozen BK219.out 0; have hfz82_1 := blk_frozen BK219.out 1))
              go_roundg k1
              case measure => have := HK1.out; omega
              case rel => exact ⟨(x219000_1), (x219001_1), (t238), (t239), H', ⟨by have := HK1.out; omega⟩, ⟨by (with_reducible repeat (first | refine blk_drewN ?_ _ | refine blk_drew ?_ | refine blk_alloc ?_ _)); refine blk_far ?_ NB218_219.out _; (with_reducible repeat (first | refine blk_drewN ?_ _ | refine blk_drew ?_ | refine blk_alloc ?_ _)); refine blk_far ?_ NB218_219.out _; (with_reducible repeat (first | refine blk_drewN ?_ _ | refine blk_drew ?_ | refine blk_alloc ?_ _)); exact BK218.out⟩, ⟨by (with_reducible repeat (first | refine blk_drewN ?_ _ | refine blk_drew ?_ | refine blk_alloc ?_ _)); refine blk_put (cs := #[.int .u64 t238, .int .u64 t232]) ?_ 1 _ rfl; (with_reducible repeat (first | refine blk_drewN ?_ _ | refine blk_drew ?_ | refine blk_alloc ?_ _)); refine blk_put (cs := #[.int .u64 t231, .int .u64 t232]) ?_ 0 _ rfl; (with_reducible repeat (first | refine blk_drewN ?_ _ | refine blk_drew ?_ | refine blk_alloc ?_ _)); exact BK219.out⟩, ⟨by (with_reducible repeat (first | refine blk_drewN ?_ _ | refine blk_drew ?_ | refine blk_alloc ?_ _)); refine blk_far ?_ NB220_219.out _; (with_reducible repeat (first | refine blk_drewN ?_ _ | refine blk_drew ?_ | refine blk_alloc ?_ _)); refine blk_far ?_ NB220_219.out _; (with_reducible repeat (first | refine blk_drewN ?_ _ | refine blk_drew ?_ | refine blk_alloc ?_ _)); exact BK220.out⟩, ⟨by repeat (first | (with_reducible first | exact HB.out | apply below_alloc | apply pw_below_drewN | apply below_drew1 | refine below_set ?_ GE218.out | refine below_set ?_ GE219.out | refine below_set ?_ GE220.out) | exact HB.out)⟩⟩
          · rw [if_neg c44] at H
            have c44b0 : (!(x220000_1 == 0) || (!(x220001_1 == 0))) = false := by simpa using c44
            clear c44
            replace H := Option.bind_eq_some_iff.mp H
            obtain ⟨⟨t227, t228, t229⟩, A830, H⟩ := H
            replace H : (some (t227, t228)) = some (r1, r2) := H
            have A83 := Aside0.mk A830
            clear A830
            simp only [Option.some.injEq, Prod.mk.injEq] at H
            obtain ⟨rfl, rfl⟩ := H
            have hnb84 := NB219_218.out
            have hnc84 := NB218_219.out
            have hnb85 := NB219_220.out
            have hnc85 := NB220_219.out
            have hcz86_0 : wr.cell? ⟨gb219, 0, none⟩ = some (.int .u64 x220000_1) := (blk_cell BK219.out 0).trans rfl
            have hcz86_1 : wr.cell? ⟨gb219, 1, none⟩ = some (.int .u64 x220001_1) := (blk_cell BK219.out 1).trans rfl
            have hfz86_0 := blk_frozen BK219.out 0
            have hfz86_1 := blk_frozen BK219.out 1
            have hnb87 := NB218_220.out
            have hnc87 := NB220_218.out
            have hcz88_0 : wr.cell? ⟨gb218, 0, none⟩ = some (.int .u64 x219000_1) := (blk_cell BK218.out 0).trans rfl
            have hcz88_1 : wr.cell? ⟨gb218, 1, none⟩ = some (.int .u64 x219001_1) := (blk_cell BK218.out 1).trans rfl
            have hfz88_0 := blk_frozen BK218.out 0
            have hfz88_1 := blk_frozen BK218.out 1
            go_wp2_with (first | ((with_reducible refine gate_callee (f := 43) rfl ?_); refine goesL_ (some 53) rfl rfl Tryd.func43 (by kernel_rfl) rfl #[.agg #[.int .u64 x219000_1, .int .u64 x219001_1], .int .i64 ji25] rfl (by (try simp only [List.map_toArray, List.map_cons, List.map_nil]); first | done | (simp only [hji25]; rfl) | rfl | (simp only [List.length_drop, List.length_take]; rfl)) ?_; (with_reducible refine (wide_Shift.calls k1 x219000_1 x219001_1 ji25 t227 t228 t229 _ A83.out).mono ?_); rintro e w89 ⟨rfl, hb⟩; refine ⟨_, rfl, ?_⟩; have n0_ := Aside0.mk (blk_below (g := gb218) (o := .cells #[.int .u64 x219000_1, .int .u64 x219001_1] 77 (0, 0)) (by (with_reducible repeat (first | refine blk_drewN ?_ _ | refine blk_drew ?_ | refine blk_alloc ?_ _)); exact BK218.out) hb); have n1_ := Aside0.mk (blk_below (g := gb219) (o := .cells #[.int .u64 x220000_1, .int .u64 x220001_1] 77 (0, 0)) (by (with_reducible repeat (first | refine blk_drewN ?_ _ | refine blk_drew ?_ | refine blk_alloc ?_ _)); exact BK219.out) hb); have n2_ := Aside0.mk (blk_below (g := gb220) (o := .cells #[.int .u64 0, .int .u64 0] 77 (0, 0)) (by (with_reducible repeat (first | refine blk_drewN ?_ _ | refine blk_drew ?_ | refine blk_alloc ?_ _)); exact BK220.out) hb); have n3_ := Aside0.mk (below_step (by repeat (first | (with_reducible first | exact HB.out | apply below_alloc | apply pw_below_drewN | apply below_drew1 | refine below_set ?_ GE218.out | refine below_set ?_ GE219.out | refine below_set ?_ GE220.out) | exact HB.out)) hb); clear BK218; clear BK219; clear BK220; clear HB; have BK218 := n0_; have BK219 := n1_; have BK220 := n2_; have HB := n3_; clear n0_ n1_ n2_ n3_; (try clear hb); (try clear hb2); (try clear hk); (try clear hi); have hcz90_0 : w89.cell? ⟨gb218, 0, none⟩ = some (.int .u64 x219000_1) := (blk_cell BK218.out 0).trans rfl; have hcz90_1 : w89.cell? ⟨gb218, 1, none⟩ = some (.int .u64 x219001_1) := (blk_cell BK218.out 1).trans rfl; have hfz90_0 := blk_frozen BK218.out 0; have hfz90_1 := blk_frozen BK218.out 1; have hcz91_0 : w89.cell? ⟨gb220, 0, none⟩ = some (.int .u64 0) := (blk_cell BK220.out 0).trans rfl; have hcz91_1 : w89.cell? ⟨gb220, 1, none⟩ = some (.int .u64 0) := (blk_cell BK220.out 1).trans rfl; have hfz91_0 := blk_frozen BK220.out 0; have hfz91_1 := blk_frozen BK220.out 1))
            refine bodyPost_ret (results_cell_row rfl _ _ gb220 77 #[.int .u64 t227, .int .u64 t228] (0, 0) _ rfl (by (with_reducible repeat (first | refine blk_drewN ?_ _ | refine blk_drew ?_ | refine blk_alloc ?_ _)); refine blk_put (cs := #[.int .u64 t227, .int .u64 0]) ?_ 1 _ rfl; (with_reducible repeat (first | refine blk_drewN ?_ _ | refine blk_drew ?_ | refine blk_alloc ?_ _)); refine blk_put (cs := #[.int .u64 0, .int .u64 0]) ?_ 0 _ rfl; (with_reducible repeat (first | refine blk_drewN ?_ _ | refine blk_drew ?_ | refine blk_alloc ?_ _)); refine blk_far ?_ NB220_218.out _; (with_reducible repeat (first | refine blk_drewN ?_ _ | refine blk_drew ?_ | refine blk_alloc ?_ _)); refine blk_far ?_ NB220_218.out _; (with_reducible repeat (first | refine blk_drewN ?_ _ | refine blk_drew ?_ | refine blk_alloc ?_ _)); exact BK220.out) Tryd.underlying77 rfl (by kernel_rfl)) rfl ?_
            exact ⟨by first | rfl | (simp [errW_none, errW_some] <;> rfl) | (simp only [← hji25]; first | rfl | (simp [errW_none, errW_some] <;> rfl)) | (simp [*, errW_none, errW_some] <;> rfl), by repeat (first | (with_reducible first | exact HB.out | apply below_alloc | apply pw_below_drewN | apply below_drew1 | refine below_set ?_ GE218.out | refine below_set ?_ GE219.out | refine below_set ?_ GE220.out) | exact HB.out)⟩

end Go.Proofs.YtjcgmjhcaaaieaaDoor.Pr
