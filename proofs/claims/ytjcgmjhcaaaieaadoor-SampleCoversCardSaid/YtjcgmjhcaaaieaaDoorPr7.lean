-- printed by a program of this session's (wip/mp.sh), out of the translation; the texts of its folder 'given' are typed by hand
import Derived.Test.YtjcgmjhcaaaieaaDoorPr0
import Derived.Test.YtjcgmjhcaaaieaaDoorPr1
import Derived.Test.YtjcgmjhcaaaieaaDoorPr2
import Derived.Test.YtjcgmjhcaaaieaaDoorPr4
import Derived.Test.YtjcgmjhcaaaieaaDoorPr6
namespace Go.Proofs.YtjcgmjhcaaaieaaDoor.Pr
open Go.RowKit Go.Proofs.YtjcgmjhcaaaieaaDoorW.PrintWords Go.Proofs.YtjcgmjhcaaaieaaDoorW.PrintLast Go.Proofs.YtjcgmjhcaaaieaaDoorW.PrintMore
attribute [local go_sem] max2_int min2_int max_two min_two max_three min_three max_four min_four   -- for this text's walks alone
attribute [local go_sem high] eqA32
set_option linter.unusedVariables false
set_option linter.unusedSimpArgs false

attribute [local go_sem high] eqA50 eqA52
/-! ### atlas_entry: function 30 -/
def atlas_entry.j0 : Nat → Int → Bool → Int → Int → Int → Int → Int → Int → Int → Int → Int → Int → Option (Bool)
  | 0, _, _, _, _, _, _, _, _, _, _, _, _ => none
  | k + 1, x2, x7, x118000, x118001, x118002, x118003, x118004, x118005, x118006, x118007, x119000, x119001 => if x7 = true then (some false) else (if (x118001 == 0 && (x118002 == 0 && (x118003 == 0 && (x118004 == 0)))) = true then (some (x118005 == 0 && (x118006 == 0 && (x118007 == 0)))) else ((atlas_within.f x118005 0 (wrap64 (x2 - 1))).bind fun t121 => (if t121 = true then ((atlas_within.f x118006 0 (wrap64 (x119000 - x118003))).bind fun t122 => (if t122 = true then ((atlas_within.f x118007 0 (wrap64 (x119001 - x118004))).bind fun t123 => (some t123)) else (some false))) else (some false))))
def atlas_entry.f (k : Nat) (a0_0 : Int) (a0_1 : Int) (a0_2 : Int) (a0_3 : Int) (a0_4 : Int) (a0_5 : Int) (a0_6 : Int) (a0_7 : Int) (a1_0 : Int) (a1_1 : Int) (a2 : Int) : Option (Bool) := (atlas_within.f a0_0 0 65535).bind fun t119 => (if t119 = true then ((cell_May.f a0_1 a0_2 a0_3 a0_4).bind fun t120 => (atlas_entry.j0 k a2 (!t120) a0_0 a0_1 a0_2 a0_3 a0_4 a0_5 a0_6 a0_7 a1_0 a1_1)) else (atlas_entry.j0 k a2 true a0_0 a0_1 a0_2 a0_3 a0_4 a0_5 a0_6 a0_7 a1_0 a1_1))
theorem atlas_entry.mono_l : ∀ k, (∀ y0 y1 y2 y3 y4 y5 y6 y7 y8 y9 y10 y11, LeO (atlas_entry.j0 k y0 y1 y2 y3 y4 y5 y6 y7 y8 y9 y10 y11) (atlas_entry.j0 (k + 1) y0 y1 y2 y3 y4 y5 y6 y7 y8 y9 y10 y11))
  | 0 => fun _ _ _ _ _ _ _ _ _ _ _ _ r h => by simp [atlas_entry.j0] at h
  | k + 1 => by
    have ih0 := atlas_entry.mono_l k
    · intro y0 y1 y2 y3 y4 y5 y6 y7 y8 y9 y10 y11
      unfold atlas_entry.j0
      repeat' first
      | (with_reducible exact ih0 _ _ _ _ _ _ _ _ _ _ _ _)
      | (with_reducible exact LeO.refl _)
      | (with_reducible exact LeO.none _)
      | (with_reducible refine LeO.ite ?_ ?_)
      | (with_reducible refine LeO.bind ?_ (fun _ => ?_))
      | exact ih0 _ _ _ _ _ _ _ _ _ _ _ _
      | exact LeO.none _
      | refine LeO.ite ?_ ?_
      | refine LeO.bind ?_ (fun _ => ?_)
theorem atlas_entry.mono : ∀ a0 a1 a2 a3 a4 a5 a6 a7 a8 a9 a10 k, LeO (atlas_entry.f k a0 a1 a2 a3 a4 a5 a6 a7 a8 a9 a10) (atlas_entry.f (k + 1) a0 a1 a2 a3 a4 a5 a6 a7 a8 a9 a10) := by
  intro a0 a1 a2 a3 a4 a5 a6 a7 a8 a9 a10 k
  have ih0 := atlas_entry.mono_l k
  unfold atlas_entry.f
  repeat' first
      | (with_reducible exact ih0 _ _ _ _ _ _ _ _ _ _ _ _)
      | (with_reducible exact LeO.refl _)
      | (with_reducible exact LeO.none _)
      | (with_reducible refine LeO.ite ?_ ?_)
      | (with_reducible refine LeO.bind ?_ (fun _ => ?_))
      | exact ih0 _ _ _ _ _ _ _ _ _ _ _ _
      | exact LeO.none _
      | refine LeO.ite ?_ ?_
      | refine LeO.bind ?_ (fun _ => ?_)
set_option maxHeartbeats 8000000 in
set_option maxRecDepth 100000 in
theorem atlas_entry.calls (k : Nat) (a0_0 : Int) (a0_1 : Int) (a0_2 : Int) (a0_3 : Int) (a0_4 : Int) (a0_5 : Int) (a0_6 : Int) (a0_7 : Int) (a1_0 : Int) (a1_1 : Int) (a2 : Int) (r : Bool) (w : World) (h : atlas_entry.f k a0_0 a0_1 a0_2 a0_3 a0_4 a0_5 a0_6 a0_7 a1_0 a1_1 a2 = some r) :
    Calls Tryd.prog 30 #[.agg #[.int .i64 a0_0, .int .i64 a0_1, .int .i64 a0_2, .int .i64 a0_3, .int .i64 a0_4, .int .i64 a0_5, .int .i64 a0_6, .int .i64 a0_7], .agg #[.int .i64 a1_0, .int .i64 a1_1], .int .i64 a2] w fun e w' => e = .returned (.bool r) ∧ Below w.heap.size w w' := by
  have hu54 := Tryd.underlying54
  have hu23 := Tryd.underlying23
  have hu50 := Tryd.underlying50
  have hu52 := Tryd.underlying52
  have HB := Aside0.mk (Below.refl w.heap.size w)
  have H : ((atlas_within.f a0_0 0 65535).bind fun t119 => (if t119 = true then ((cell_May.f a0_1 a0_2 a0_3 a0_4).bind fun t120 => (atlas_entry.j0 k a2 (!t120) a0_0 a0_1 a0_2 a0_3 a0_4 a0_5 a0_6 a0_7 a1_0 a1_1)) else (atlas_entry.j0 k a2 true a0_0 a0_1 a0_2 a0_3 a0_4 a0_5 a0_6 a0_7 a1_0 a1_1))) = some r := h
  clear h
  have HC4 := Aside0.mk H
  clear H
  go_enter Tryd.func30, Tryd.ntmps30
  go_upto_region 1 with (first | ((with_reducible refine gate_dst (N := 3) rfl ?_); refine box_event ?hg (N := 3) ?hd (cs := #[.int .i64 a0_0, .int .i64 a0_1, .int .i64 a0_2, .int .i64 a0_3, .int .i64 a0_4, .int .i64 a0_5, .int .i64 a0_6, .int .i64 a0_7]) (t := 54) ?hr ?_; (case hd => rfl); (case hg => rfl); (case hr => first | (go_simp; done) | (go_simp; rfl)); intro gb117 hg w5 hbox hb; have n0_ := Aside0.mk (below_step (by repeat (first | (with_reducible first | exact HB.out | apply below_alloc | apply pw_below_drewN | apply below_drew1) | exact HB.out)) hb); have n1_ := Aside0.mk (hbox); have n2_ := Aside0.mk ((by rw [hg]; exact (below_size (by repeat (first | (with_reducible first | exact HB.out | apply below_alloc | apply pw_below_drewN | apply below_drew1) | exact HB.out))) : w.heap.size ≤ gb117)); have n3_ := Aside0.mk ((by rw [hg]; exact (below_size (by repeat (first | (with_reducible first | exact HB.out | apply below_alloc | apply pw_below_drewN | apply below_drew1) | exact HB.out))) : w.heap.size ≤ gb117)); clear HB; have HB := n0_; have BK117 := n1_; have GW117 := n2_; have GE117 := n3_; clear n0_ n1_ n2_ n3_; clear hb hbox hg) | ((with_reducible refine gate_dst (N := 4) rfl ?_); refine box_event ?hg (N := 4) ?hd (cs := #[.int .i64 a1_0, .int .i64 a1_1]) (t := 23) ?hr ?_; (case hd => rfl); (case hg => rfl); (case hr => first | (go_simp; done) | (go_simp; rfl)); intro gb118 hg w6 hbox hb; have n0_ := Aside0.mk (blk_below (g := gb117) (o := .cells #[.int .i64 a0_0, .int .i64 a0_1, .int .i64 a0_2, .int .i64 a0_3, .int .i64 a0_4, .int .i64 a0_5, .int .i64 a0_6, .int .i64 a0_7] 54 (0, 0)) (by (with_reducible repeat (first | refine blk_drewN ?_ _ | refine blk_drew ?_ | refine blk_alloc ?_ _)); exact BK117.out) hb); have n1_ := Aside0.mk (below_step (by repeat (first | (with_reducible first | exact HB.out | apply below_alloc | apply pw_below_drewN | apply below_drew1 | refine below_set ?_ GE117.out) | exact HB.out)) hb); have n2_ := Aside0.mk (hbox); have n3_ := Aside0.mk ((by rw [hg]; exact (below_size (by repeat (first | (with_reducible first | exact HB.out | apply below_alloc | apply pw_below_drewN | apply below_drew1 | refine below_set ?_ GE117.out) | exact HB.out))) : w.heap.size ≤ gb118)); have n4_ := Aside0.mk ((by rw [hg]; exact (below_size (by repeat (first | (with_reducible first | exact HB.out | apply below_alloc | apply pw_below_drewN | apply below_drew1 | refine below_set ?_ GE117.out) | exact HB.out))) : w.heap.size ≤ gb118)); have n5_ := Aside0.mk ((by rw [hg]; exact Nat.ne_of_lt (blk_lt (g := gb117) (o := .cells #[.int .i64 a0_0, .int .i64 a0_1, .int .i64 a0_2, .int .i64 a0_3, .int .i64 a0_4, .int .i64 a0_5, .int .i64 a0_6, .int .i64 a0_7] 54 (0, 0)) (by (with_reducible repeat (first | refine blk_drewN ?_ _ | refine blk_drew ?_ | refine blk_alloc ?_ _)); exact BK117.out)) : gb117 ≠ gb118)); have n6_ := Aside0.mk ((by rw [hg]; exact Nat.ne_of_gt (blk_lt (g := gb117) (o := .cells #[.int .i64 a0_0, .int .i64 a0_1, .int .i64 a0_2, .int .i64 a0_3, .int .i64 a0_4, .int .i64 a0_5, .int .i64 a0_6, .int .i64 a0_7] 54 (0, 0)) (by (with_reducible repeat (first | refine blk_drewN ?_ _ | refine blk_drew ?_ | refine blk_alloc ?_ _)); exact BK117.out)) : gb118 ≠ gb117)); clear BK117; clear HB; have BK117 := n0_; have HB := n1_; have BK118 := n2_; have GW118 := n3_; have GE118 := n4_; have NB117_118 := n5_; have NB118_117 := n6_; clear n0_ n1_ n2_ n3_ n4_ n5_ n6_; clear hb hbox hg))
  (try simp only [Act.put, List.setIfInBounds_toArray, List.set_cons_zero, List.set_cons_succ])
  go_cut [7] (fun v7 wc => ∃ (kq : Nat) (x7_3 : Bool), v7 = .bool x7_3 ∧ Aside0 (atlas_entry.j0 kq a2 x7_3 a0_0 a0_1 a0_2 a0_3 a0_4 a0_5 a0_6 a0_7 a1_0 a1_1 = some r) ∧ Aside0 (kq ≤ k) ∧ Aside0 (wc.heap[gb117]? = some (.cells #[.int .i64 a0_0, .int .i64 a0_1, .int .i64 a0_2, .int .i64 a0_3, .int .i64 a0_4, .int .i64 a0_5, .int .i64 a0_6, .int .i64 a0_7] 54 (0, 0))) ∧ Aside0 (wc.heap[gb118]? = some (.cells #[.int .i64 a1_0, .int .i64 a1_1] 23 (0, 0))) ∧ Aside0 (Below w.heap.size w wc))
  case first =>
    have H := HC4.out
    clear HC4
    replace H := Option.bind_eq_some_iff.mp H
    obtain ⟨t119, A70, H⟩ := H
    replace H : (if t119 = true then ((cell_May.f a0_1 a0_2 a0_3 a0_4).bind fun t120 => (atlas_entry.j0 k a2 (!t120) a0_0 a0_1 a0_2 a0_3 a0_4 a0_5 a0_6 a0_7 a1_0 a1_1)) else (atlas_entry.j0 k a2 true a0_0 a0_1 a0_2 a0_3 a0_4 a0_5 a0_6 a0_7 a1_0 a1_1)) = some r := H
    have A7 := Aside0.mk A70
    clear A70
    by_cases c8 : t119 = true
    · subst c8
      have H1 : ((cell_May.f a0_1 a0_2 a0_3 a0_4).bind fun t120 => (atlas_entry.j0 k a2 (!t120) a0_0 a0_1 a0_2 a0_3 a0_4 a0_5 a0_6 a0_7 a1_0 a1_1)) = some r := by rw [if_pos rfl] at H; exact H
      clear H
      have H := H1
      clear H1
      replace H := Option.bind_eq_some_iff.mp H
      obtain ⟨t120, A90, H⟩ := H
      replace H : (atlas_entry.j0 k a2 (!t120) a0_0 a0_1 a0_2 a0_3 a0_4 a0_5 a0_6 a0_7 a1_0 a1_1) = some r := H
      have A9 := Aside0.mk A90
      clear A90
      have H' := Aside0.mk H
      clear H
      have hnb10 := NB117_118.out
      have hnc10 := NB118_117.out
      have hcz11_0 : w6.cell? ⟨gb117, 0, none⟩ = some (.int .i64 a0_0) := (blk_cell BK117.out 0).trans rfl
      have hcz11_1 : w6.cell? ⟨gb117, 1, none⟩ = some (.int .i64 a0_1) := (blk_cell BK117.out 1).trans rfl
      have hcz11_2 : w6.cell? ⟨gb117, 2, none⟩ = some (.int .i64 a0_2) := (blk_cell BK117.out 2).trans rfl
      have hcz11_3 : w6.cell? ⟨gb117, 3, none⟩ = some (.int .i64 a0_3) := (blk_cell BK117.out 3).trans rfl
      have hcz11_4 : w6.cell? ⟨gb117, 4, none⟩ = some (.int .i64 a0_4) := (blk_cell BK117.out 4).trans rfl
      have hcz11_5 : w6.cell? ⟨gb117, 5, none⟩ = some (.int .i64 a0_5) := (blk_cell BK117.out 5).trans rfl
      have hcz11_6 : w6.cell? ⟨gb117, 6, none⟩ = some (.int .i64 a0_6) := (blk_cell BK117.out 6).trans rfl
      have hcz11_7 : w6.cell? ⟨gb117, 7, none⟩ = some (.int .i64 a0_7) := (blk_cell BK117.out 7).trans rfl
      have hfz11_0 := blk_frozen BK117.out 0
      have hfz11_1 := blk_frozen BK117.out 1
      have hfz11_2 := blk_frozen BK117.out 2
      have hfz11_3 := blk_frozen BK117.out 3
      have hfz11_4 := blk_frozen BK117.out 4
      have hfz11_5 := blk_frozen BK117.out 5
      have hfz11_6 := blk_frozen BK117.out 6
      have hfz11_7 := blk_frozen BK117.out 7
      go_wp2_with (first | ((with_reducible refine gate_callee (f := 39) rfl ?_); refine goesL_ (some 10) rfl rfl Tryd.func39 (by kernel_rfl) rfl #[.int .i64 a0_0, .int .i64 0, .int .i64 65535] rfl (by (try simp only [List.map_toArray, List.map_cons, List.map_nil]); first | done | rfl | (simp only [List.length_drop, List.length_take]; rfl)) ?_; (with_reducible refine (atlas_within.calls a0_0 0 65535 true _ A7.out).mono ?_); rintro e w' ⟨rfl, ⟨nd, rfl⟩⟩; refine ⟨_, rfl, ?_⟩) | (go_at_call 41; (with_reducible refine (cell_May.calls a0_1 a0_2 a0_3 a0_4 t120 _ A9.out).mono ?_); rintro e w12 ⟨rfl, hb⟩; have n0_ := Aside0.mk (blk_below (g := gb117) (o := .cells #[.int .i64 a0_0, .int .i64 a0_1, .int .i64 a0_2, .int .i64 a0_3, .int .i64 a0_4, .int .i64 a0_5, .int .i64 a0_6, .int .i64 a0_7] 54 (0, 0)) (by (with_reducible repeat (first | refine blk_drewN ?_ _ | refine blk_drew ?_ | refine blk_alloc ?_ _)); exact BK117.out) hb); have n1_ := Aside0.mk (blk_below (g := gb118) (o := .cells #[.int .i64 a1_0, .int .i64 a1_1] 23 (0, 0)) (by (with_reducible repeat (first | refine blk_drewN ?_ _ | refine blk_drew ?_ | refine blk_alloc ?_ _)); exact BK118.out) hb); have n2_ := Aside0.mk (below_step (by repeat (first | (with_reducible first | exact HB.out | apply below_alloc | apply pw_below_drewN | apply below_drew1 | refine below_set ?_ GE117.out | refine below_set ?_ GE118.out) | exact HB.out)) hb); clear BK117; clear BK118; clear HB; have BK117 := n0_; have BK118 := n1_; have HB := n2_; clear n0_ n1_ n2_; (try clear hb); (try clear hb2); (try clear hk); (try clear hi)))
      go_meet
      case rel => exact ⟨_, (!t120), (by first | rfl | (simp; done) | (simp [*]; done)), H', ⟨by first | omega | exact Nat.le_refl _⟩, ⟨by (with_reducible repeat (first | refine blk_drewN ?_ _ | refine blk_drew ?_ | refine blk_alloc ?_ _)); exact BK117.out⟩, ⟨by (with_reducible repeat (first | refine blk_drewN ?_ _ | refine blk_drew ?_ | refine blk_alloc ?_ _)); exact BK118.out⟩, ⟨by repeat (first | (with_reducible first | exact HB.out | apply below_alloc | apply pw_below_drewN | apply below_drew1 | refine below_set ?_ GE117.out | refine below_set ?_ GE118.out) | exact HB.out)⟩⟩
    · replace c8 := Bool.eq_false_iff.mpr c8
      subst c8
      have H1 : (atlas_entry.j0 k a2 true a0_0 a0_1 a0_2 a0_3 a0_4 a0_5 a0_6 a0_7 a1_0 a1_1) = some r := by rw [if_neg (show ¬ (false = true) by decide)] at H; exact H
      clear H
      have H := H1
      clear H1
      have H' := Aside0.mk H
      clear H
      have hnb13 := NB117_118.out
      have hnc13 := NB118_117.out
      have hcz14_0 : w6.cell? ⟨gb117, 0, none⟩ = some (.int .i64 a0_0) := (blk_cell BK117.out 0).trans rfl
      have hcz14_1 : w6.cell? ⟨gb117, 1, none⟩ = some (.int .i64 a0_1) := (blk_cell BK117.out 1).trans rfl
      have hcz14_2 : w6.cell? ⟨gb117, 2, none⟩ = some (.int .i64 a0_2) := (blk_cell BK117.out 2).trans rfl
      have hcz14_3 : w6.cell? ⟨gb117, 3, none⟩ = some (.int .i64 a0_3) := (blk_cell BK117.out 3).trans rfl
      have hcz14_4 : w6.cell? ⟨gb117, 4, none⟩ = some (.int .i64 a0_4) := (blk_cell BK117.out 4).trans rfl
      have hcz14_5 : w6.cell? ⟨gb117, 5, none⟩ = some (.int .i64 a0_5) := (blk_cell BK117.out 5).trans rfl
      have hcz14_6 : w6.cell? ⟨gb117, 6, none⟩ = some (.int .i64 a0_6) := (blk_cell BK117.out 6).trans rfl
      have hcz14_7 : w6.cell? ⟨gb117, 7, none⟩ = some (.int .i64 a0_7) := (blk_cell BK117.out 7).trans rfl
      have hfz14_0 := blk_frozen BK117.out 0
      have hfz14_1 := blk_frozen BK117.out 1
      have hfz14_2 := blk_frozen BK117.out 2
      have hfz14_3 := blk_frozen BK117.out 3
      have hfz14_4 := blk_frozen BK117.out 4
      have hfz14_5 := blk_frozen BK117.out 5
      have hfz14_6 := blk_frozen BK117.out 6
      have hfz14_7 := blk_frozen BK117.out 7
      go_wp2_with (first | ((with_reducible refine gate_callee (f := 39) rfl ?_); refine goesL_ (some 10) rfl rfl Tryd.func39 (by kernel_rfl) rfl #[.int .i64 a0_0, .int .i64 0, .int .i64 65535] rfl (by (try simp only [List.map_toArray, List.map_cons, List.map_nil]); first | done | rfl | (simp only [List.length_drop, List.length_take]; rfl)) ?_; (with_reducible refine (atlas_within.calls a0_0 0 65535 false _ A7.out).mono ?_); rintro e w' ⟨rfl, ⟨nd, rfl⟩⟩; refine ⟨_, rfl, ?_⟩))
      go_meet
      case rel => exact ⟨_, (true), (by first | rfl | (simp; done) | (simp [*]; done)), H', ⟨by first | omega | exact Nat.le_refl _⟩, ⟨by (with_reducible repeat (first | refine blk_drewN ?_ _ | refine blk_drew ?_ | refine blk_alloc ?_ _)); exact BK117.out⟩, ⟨by (with_reducible repeat (first | refine blk_drewN ?_ _ | refine blk_drew ?_ | refine blk_alloc ?_ _)); exact BK118.out⟩, ⟨by repeat (first | (with_reducible first | exact HB.out | apply below_alloc | apply pw_below_drewN | apply below_drew1 | refine below_set ?_ GE117.out | refine below_set ?_ GE118.out) | exact HB.out)⟩⟩
  case rest =>
    clear HC4
    try clear c1
    try clear p2
    try clear c3
    try clear c8
    try clear c10
    try clear c13
    try clear hcz11_0
    try clear hcz11_1
    try clear hcz11_2
    try clear hcz11_3
    try clear hcz11_4
    try clear hcz11_5
    try clear hcz11_6
    try clear hcz11_7
    try clear hcz14_0
    try clear hcz14_1
    try clear hcz14_2
    try clear hcz14_3
    try clear hcz14_4
    try clear hcz14_5
    try clear hcz14_6
    try clear hcz14_7
    try clear hfz11_0
    try clear hfz11_1
    try clear hfz11_2
    try clear hfz11_3
    try clear hfz11_4
    try clear hfz11_5
    try clear hfz11_6
    try clear hfz11_7
    try clear hfz14_0
    try clear hfz14_1
    try clear hfz14_2
    try clear hfz14_3
    try clear hfz14_4
    try clear hfz14_5
    try clear hfz14_6
    try clear hfz14_7
    obtain ⟨kq, x7_3, rfl, HA, HJ3, BK117, BK118, HB⟩ := hcut
    cases kq with
    | zero => exact absurd HA.out (by simp [atlas_entry.j0])
    | succ kj3 =>
      have H := HA.out
      clear HA
      simp only [atlas_entry.j0] at H
      by_cases c15 : x7_3 = true
      · subst c15
        have H1 : (some false) = some r := by rw [if_pos rfl] at H; exact H
        clear H
        have H := H1
        clear H1
        obtain rfl := Option.some.inj H
        go_wp2
        go_ret
        exact ⟨by first | rfl | (simp [errW_none, errW_some] <;> rfl) | (simp [*, errW_none, errW_some] <;> rfl), by repeat (first | (with_reducible first | exact HB.out | apply below_alloc | apply pw_below_drewN | apply below_drew1 | refine below_set ?_ GE117.out | refine below_set ?_ GE118.out) | exact HB.out)⟩
      · replace c15 := Bool.eq_false_iff.mpr c15
        subst c15
        have H1 : (if (a0_1 == 0 && (a0_2 == 0 && (a0_3 == 0 && (a0_4 == 0)))) = true then (some (a0_5 == 0 && (a0_6 == 0 && (a0_7 == 0)))) else ((atlas_within.f a0_5 0 (wrap64 (a2 - 1))).bind fun t121 => (if t121 = true then ((atlas_within.f a0_6 0 (wrap64 (a1_0 - a0_3))).bind fun t122 => (if t122 = true then ((atlas_within.f a0_7 0 (wrap64 (a1_1 - a0_4))).bind fun t123 => (some t123)) else (some false))) else (some false)))) = some r := by rw [if_neg (show ¬ (false = true) by decide)] at H; exact H
        clear H
        have H := H1
        clear H1
        by_cases c16 : (a0_1 == 0 && (a0_2 == 0 && (a0_3 == 0 && (a0_4 == 0)))) = true
        · rw [if_pos c16] at H
          have c16b0 : (a0_1 == 0 && (a0_2 == 0 && (a0_3 == 0 && (a0_4 == 0)))) = true := c16
          (try (have c16b1 : decide (a0_1 = 0 && (a0_2 == 0 && (a0_3 == 0 && (a0_4 == 0)))) = true := by simpa using c16))
          (try (have c16b2 : (a0_1 == 0 && (a0_2 == 0 && (a0_3 == 0 && (a0_4 == 0)))) = true := by simpa using c16))
          clear c16
          obtain rfl := Option.some.inj H
          have hnb17 := NB117_118.out
          have hnc17 := NB118_117.out
          have hcz18_0 : wc.cell? ⟨gb117, 0, none⟩ = some (.int .i64 a0_0) := (blk_cell BK117.out 0).trans rfl
          have hcz18_1 : wc.cell? ⟨gb117, 1, none⟩ = some (.int .i64 a0_1) := (blk_cell BK117.out 1).trans rfl
          have hcz18_2 : wc.cell? ⟨gb117, 2, none⟩ = some (.int .i64 a0_2) := (blk_cell BK117.out 2).trans rfl
          have hcz18_3 : wc.cell? ⟨gb117, 3, none⟩ = some (.int .i64 a0_3) := (blk_cell BK117.out 3).trans rfl
          have hcz18_4 : wc.cell? ⟨gb117, 4, none⟩ = some (.int .i64 a0_4) := (blk_cell BK117.out 4).trans rfl
          have hcz18_5 : wc.cell? ⟨gb117, 5, none⟩ = some (.int .i64 a0_5) := (blk_cell BK117.out 5).trans rfl
          have hcz18_6 : wc.cell? ⟨gb117, 6, none⟩ = some (.int .i64 a0_6) := (blk_cell BK117.out 6).trans rfl
          have hcz18_7 : wc.cell? ⟨gb117, 7, none⟩ = some (.int .i64 a0_7) := (blk_cell BK117.out 7).trans rfl
          have hfz18_0 := blk_frozen BK117.out 0
          have hfz18_1 := blk_frozen BK117.out 1
          have hfz18_2 := blk_frozen BK117.out 2
          have hfz18_3 := blk_frozen BK117.out 3
          have hfz18_4 := blk_frozen BK117.out 4
          have hfz18_5 := blk_frozen BK117.out 5
          have hfz18_6 := blk_frozen BK117.out 6
          have hfz18_7 := blk_frozen BK117.out 7
          go_wp2
          go_ret
          exact ⟨by first | rfl | (simp [errW_none, errW_some] <;> rfl) | (simp [*, errW_none, errW_some] <;> rfl), by repeat (first | (with_reducible first | exact HB.out | apply below_alloc | apply pw_below_drewN | apply below_drew1 | refine below_set ?_ GE117.out | refine below_set ?_ GE118.out) | exact HB.out)⟩
        · rw [if_neg c16] at H
          have c16b0 : (a0_1 == 0 && (a0_2 == 0 && (a0_3 == 0 && (a0_4 == 0)))) = false := by simpa using c16
          (try (have c16b1 : decide (a0_1 = 0 && (a0_2 == 0 && (a0_3 == 0 && (a0_4 == 0)))) = false := by simpa using c16))
          (try (have c16b2 : (a0_1 == 0 && (a0_2 == 0 && (a0_3 == 0 && (a0_4 == 0)))) = false := by simpa using c16))
          (try (have c16b3 : ¬ (a0_1 = 0 && (a0_2 == 0 && (a0_3 == 0 && (a0_4 == 0)))) := by simpa using c16))
          clear c16
          replace H := Option.bind_eq_some_iff.mp H
          obtain ⟨t121, A190, H⟩ := H
          replace H : (if t121 = true then ((atlas_within.f a0_6 0 (wrap64 (a1_0 - a0_3))).bind fun t122 => (if t122 = true then ((atlas_within.f a0_7 0 (wrap64 (a1_1 - a0_4))).bind fun t123 => (some t123)) else (some false))) else (some false)) = some r := H
          have A19 := Aside0.mk A190
          clear A190
          by_cases c20 : t121 = true
          · subst c20
            have H1 : ((atlas_within.f a0_6 0 (wrap64 (a1_0 - a0_3))).bind fun t122 => (if t122 = true then ((atlas_within.f a0_7 0 (wrap64 (a1_1 - a0_4))).bind fun t123 => (some t123)) else (some false))) = some r := by rw [if_pos rfl] at H; exact H
            clear H
            have H := H1
            clear H1
            replace H := Option.bind_eq_some_iff.mp H
            obtain ⟨t122, A210, H⟩ := H
            replace H : (if t122 = true then ((atlas_within.f a0_7 0 (wrap64 (a1_1 - a0_4))).bind fun t123 => (some t123)) else (some false)) = some r := H
            have A21 := Aside0.mk A210
            clear A210
            by_cases c22 : t122 = true
            · subst c22
              have H1 : ((atlas_within.f a0_7 0 (wrap64 (a1_1 - a0_4))).bind fun t123 => (some t123)) = some r := by rw [if_pos rfl] at H; exact H
              clear H
              have H := H1
              clear H1
              replace H := Option.bind_eq_some_iff.mp H
              obtain ⟨t123, A230, H⟩ := H
              replace H : (some t123) = some r := H
              have A23 := Aside0.mk A230
              clear A230
              obtain rfl := Option.some.inj H
              have hnb24 := NB117_118.out
              have hnc24 := NB118_117.out
              have hcz25_0 : wc.cell? ⟨gb117, 0, none⟩ = some (.int .i64 a0_0) := (blk_cell BK117.out 0).trans rfl
              have hcz25_1 : wc.cell? ⟨gb117, 1, none⟩ = some (.int .i64 a0_1) := (blk_cell BK117.out 1).trans rfl
              have hcz25_2 : wc.cell? ⟨gb117, 2, none⟩ = some (.int .i64 a0_2) := (blk_cell BK117.out 2).trans rfl
              have hcz25_3 : wc.cell? ⟨gb117, 3, none⟩ = some (.int .i64 a0_3) := (blk_cell BK117.out 3).trans rfl
              have hcz25_4 : wc.cell? ⟨gb117, 4, none⟩ = some (.int .i64 a0_4) := (blk_cell BK117.out 4).trans rfl
              have hcz25_5 : wc.cell? ⟨gb117, 5, none⟩ = some (.int .i64 a0_5) := (blk_cell BK117.out 5).trans rfl
              have hcz25_6 : wc.cell? ⟨gb117, 6, none⟩ = some (.int .i64 a0_6) := (blk_cell BK117.out 6).trans rfl
              have hcz25_7 : wc.cell? ⟨gb117, 7, none⟩ = some (.int .i64 a0_7) := (blk_cell BK117.out 7).trans rfl
              have hfz25_0 := blk_frozen BK117.out 0
              have hfz25_1 := blk_frozen BK117.out 1
              have hfz25_2 := blk_frozen BK117.out 2
              have hfz25_3 := blk_frozen BK117.out 3
              have hfz25_4 := blk_frozen BK117.out 4
              have hfz25_5 := blk_frozen BK117.out 5
              have hfz25_6 := blk_frozen BK117.out 6
              have hfz25_7 := blk_frozen BK117.out 7
              go_wp2_with (first | ((with_reducible refine gate_callee (f := 39) rfl ?_); refine goesL_ (some 32) rfl rfl Tryd.func39 (by kernel_rfl) rfl #[.int .i64 a0_5, .int .i64 0, .int .i64 (wrap64 (a2 - 1))] rfl (by (try simp only [List.map_toArray, List.map_cons, List.map_nil]); first | done | rfl | (simp only [List.length_drop, List.length_take]; rfl)) ?_; (with_reducible refine (atlas_within.calls a0_5 0 (wrap64 (a2 - 1)) true _ A19.out).mono ?_); rintro e w' ⟨rfl, ⟨nd, rfl⟩⟩; refine ⟨_, rfl, ?_⟩; have hcz26_0 : wc.cell? ⟨gb118, 0, none⟩ = some (.int .i64 a1_0) := (blk_cell BK118.out 0).trans rfl; have hcz26_1 : wc.cell? ⟨gb118, 1, none⟩ = some (.int .i64 a1_1) := (blk_cell BK118.out 1).trans rfl; have hfz26_0 := blk_frozen BK118.out 0; have hfz26_1 := blk_frozen BK118.out 1) | (go_at_call 39; (with_reducible refine (atlas_within.calls a0_6 0 (wrap64 (a1_0 - a0_3)) true _ A21.out).mono ?_); rintro e w' ⟨rfl, ⟨nd, rfl⟩⟩) | (go_at_call 39; (with_reducible refine (atlas_within.calls a0_7 0 (wrap64 (a1_1 - a0_4)) t123 _ A23.out).mono ?_); rintro e w' ⟨rfl, ⟨nd, rfl⟩⟩))
              go_ret
              exact ⟨by first | rfl | (simp [errW_none, errW_some] <;> rfl) | (simp [*, errW_none, errW_some] <;> rfl), by repeat (first | (with_reducible first | exact HB.out | apply below_alloc | apply pw_below_drewN | apply below_drew1 | refine below_set ?_ GE117.out | refine below_set ?_ GE118.out) | exact HB.out)⟩
            · replace c22 := Bool.eq_false_iff.mpr c22
              subst c22
              have H1 : (some false) = some r := by rw [if_neg (show ¬ (false = true) by decide)] at H; exact H
              clear H
              have H := H1
              clear H1
              obtain rfl := Option.some.inj H
              have hnb27 := NB117_118.out
              have hnc27 := NB118_117.out
              have hcz28_0 : wc.cell? ⟨gb117, 0, none⟩ = some (.int .i64 a0_0) := (blk_cell BK117.out 0).trans rfl
              have hcz28_1 : wc.cell? ⟨gb117, 1, none⟩ = some (.int .i64 a0_1) := (blk_cell BK117.out 1).trans rfl
              have hcz28_2 : wc.cell? ⟨gb117, 2, none⟩ = some (.int .i64 a0_2) := (blk_cell BK117.out 2).trans rfl
              have hcz28_3 : wc.cell? ⟨gb117, 3, none⟩ = some (.int .i64 a0_3) := (blk_cell BK117.out 3).trans rfl
              have hcz28_4 : wc.cell? ⟨gb117, 4, none⟩ = some (.int .i64 a0_4) := (blk_cell BK117.out 4).trans rfl
              have hcz28_5 : wc.cell? ⟨gb117, 5, none⟩ = some (.int .i64 a0_5) := (blk_cell BK117.out 5).trans rfl
              have hcz28_6 : wc.cell? ⟨gb117, 6, none⟩ = some (.int .i64 a0_6) := (blk_cell BK117.out 6).trans rfl
              have hcz28_7 : wc.cell? ⟨gb117, 7, none⟩ = some (.int .i64 a0_7) := (blk_cell BK117.out 7).trans rfl
              have hfz28_0 := blk_frozen BK117.out 0
              have hfz28_1 := blk_frozen BK117.out 1
              have hfz28_2 := blk_frozen BK117.out 2
              have hfz28_3 := blk_frozen BK117.out 3
              have hfz28_4 := blk_frozen BK117.out 4
              have hfz28_5 := blk_frozen BK117.out 5
              have hfz28_6 := blk_frozen BK117.out 6
              have hfz28_7 := blk_frozen BK117.out 7
              go_wp2_with (first | ((with_reducible refine gate_callee (f := 39) rfl ?_); refine goesL_ (some 32) rfl rfl Tryd.func39 (by kernel_rfl) rfl #[.int .i64 a0_5, .int .i64 0, .int .i64 (wrap64 (a2 - 1))] rfl (by (try simp only [List.map_toArray, List.map_cons, List.map_nil]); first | done | rfl | (simp only [List.length_drop, List.length_take]; rfl)) ?_; (with_reducible refine (atlas_within.calls a0_5 0 (wrap64 (a2 - 1)) true _ A19.out).mono ?_); rintro e w' ⟨rfl, ⟨nd, rfl⟩⟩; refine ⟨_, rfl, ?_⟩; have hcz29_0 : wc.cell? ⟨gb118, 0, none⟩ = some (.int .i64 a1_0) := (blk_cell BK118.out 0).trans rfl; have hcz29_1 : wc.cell? ⟨gb118, 1, none⟩ = some (.int .i64 a1_1) := (blk_cell BK118.out 1).trans rfl; have hfz29_0 := blk_frozen BK118.out 0; have hfz29_1 := blk_frozen BK118.out 1) | (go_at_call 39; (with_reducible refine (atlas_within.calls a0_6 0 (wrap64 (a1_0 - a0_3)) false _ A21.out).mono ?_); rintro e w' ⟨rfl, ⟨nd, rfl⟩⟩))
              go_ret
              exact ⟨by first | rfl | (simp [errW_none, errW_some] <;> rfl) | (simp [*, errW_none, errW_some] <;> rfl), by repeat (first | (with_reducible first | exact HB.out | apply below_alloc | apply pw_below_drewN | apply below_drew1 | refine below_set ?_ GE117.out | refine below_set ?_ GE118.out) | exact HB.out)⟩
          · replace c20 := Bool.eq_false_iff.mpr c20
            subst c20
            have H1 : (some false) = some r := by rw [if_neg (show ¬ (false = true) by decide)] at H; exact H
            clear H
            have H := H1
            clear H1
            obtain rfl := Option.some.inj H
            have hnb30 := NB117_118.out
            have hnc30 := NB118_117.out
            have hcz31_0 : wc.cell? ⟨gb117, 0, none⟩ = some (.int .i64 a0_0) := (blk_cell BK117.out 0).trans rfl
            have hcz31_1 : wc.cell? ⟨gb117, 1, none⟩ = some (.int .i64 a0_1) := (blk_cell BK117.out 1).trans rfl
            have hcz31_2 : wc.cell? ⟨gb117, 2, none⟩ = some (.int .i64 a0_2) := (blk_cell BK117.out 2).trans rfl
            have hcz31_3 : wc.cell? ⟨gb117, 3, none⟩ = some (.int .i64 a0_3) := (blk_cell BK117.out 3).trans rfl
            have hcz31_4 : wc.cell? ⟨gb117, 4, none⟩ = some (.int .i64 a0_4) := (blk_cell BK117.out 4).trans rfl
            have hcz31_5 : wc.cell? ⟨gb117, 5, none⟩ = some (.int .i64 a0_5) := (blk_cell BK117.out 5).trans rfl
            have hcz31_6 : wc.cell? ⟨gb117, 6, none⟩ = some (.int .i64 a0_6) := (blk_cell BK117.out 6).trans rfl
            have hcz31_7 : wc.cell? ⟨gb117, 7, none⟩ = some (.int .i64 a0_7) := (blk_cell BK117.out 7).trans rfl
            have hfz31_0 := blk_frozen BK117.out 0
            have hfz31_1 := blk_frozen BK117.out 1
            have hfz31_2 := blk_frozen BK117.out 2
            have hfz31_3 := blk_frozen BK117.out 3
            have hfz31_4 := blk_frozen BK117.out 4
            have hfz31_5 := blk_frozen BK117.out 5
            have hfz31_6 := blk_frozen BK117.out 6
            have hfz31_7 := blk_frozen BK117.out 7
            go_wp2_with (first | ((with_reducible refine gate_callee (f := 39) rfl ?_); refine goesL_ (some 32) rfl rfl Tryd.func39 (by kernel_rfl) rfl #[.int .i64 a0_5, .int .i64 0, .int .i64 (wrap64 (a2 - 1))] rfl (by (try simp only [List.map_toArray, List.map_cons, List.map_nil]); first | done | rfl | (simp only [List.length_drop, List.length_take]; rfl)) ?_; (with_reducible refine (atlas_within.calls a0_5 0 (wrap64 (a2 - 1)) false _ A19.out).mono ?_); rintro e w' ⟨rfl, ⟨nd, rfl⟩⟩; refine ⟨_, rfl, ?_⟩))
            go_ret
            exact ⟨by first | rfl | (simp [errW_none, errW_some] <;> rfl) | (simp [*, errW_none, errW_some] <;> rfl), by repeat (first | (with_reducible first | exact HB.out | apply below_alloc | apply pw_below_drewN | apply below_drew1 | refine below_set ?_ GE117.out | refine below_set ?_ GE118.out) | exact HB.out)⟩

end Go.Proofs.YtjcgmjhcaaaieaaDoor.Pr
