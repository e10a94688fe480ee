-- printed by a program of this session's (wip/mp.sh), out of the translation; the texts of its folder 'given' are typed by hand
import Derived.Test.YtjcgmjhcaaaieaaDoorPr0
import Derived.Test.YtjcgmjhcaaaieaaDoorPr3
import Derived.Test.YtjcgmjhcaaaieaaDoorPr17
import Derived.Test.YtjcgmjhcaaaieaaDoorPr19
namespace Go.Proofs.YtjcgmjhcaaaieaaDoor.Pr
open Go.RowKit Go.Proofs.YtjcgmjhcaaaieaaDoorW.PrintWords Go.Proofs.YtjcgmjhcaaaieaaDoorW.PrintLast Go.Proofs.YtjcgmjhcaaaieaaDoorW.PrintMore
attribute [local go_sem] max2_int min2_int max_two min_two max_three min_three max_four min_four   -- for this text's walks alone
attribute [local go_sem high] eqA32
set_option linter.unusedVariables false
set_option linter.unusedSimpArgs false

attribute [local go_sem high] eqA77
/-! ### wide_Shift: function 43 -/
def wide_Shift.j0 : Nat → Int → Bool → Int → Int → Option (Int × Int × Int)
  | 0, _, _, _, _ => none
  | k + 1, x1, x6, x194000, x194001 => if x6 = true then (some (0, 0, 0)) else (if x1 < 0 then ((wide_right.f x194000 x194001 (IntKind.u64.wrap (wrap64 (-x1)))).bind fun bt195 => (some (bt195.1, bt195.2, 0))) else ((wide_Bits.f x194000 x194001).bind fun t197 => (if x1 > (wrap64 (128 - t197)) then (some (0, 0, 2)) else ((wide_left.f x194000 x194001 (IntKind.u64.wrap (x1))).bind fun bt198 => (some (bt198.1, bt198.2, 0))))))
def wide_Shift.f (k : Nat) (a0_0 : Int) (a0_1 : Int) (a1 : Int) : Option (Int × Int × Int) := if (a0_0 == 0 && (a0_1 == 0)) = true then (wide_Shift.j0 k a1 true a0_0 a0_1) else (wide_Shift.j0 k a1 (decide (a1 ≤ (-128))) a0_0 a0_1)
theorem wide_Shift.mono_l : ∀ k, (∀ y0 y1 y2 y3, LeO (wide_Shift.j0 k y0 y1 y2 y3) (wide_Shift.j0 (k + 1) y0 y1 y2 y3))
  | 0 => fun _ _ _ _ r h => by simp [wide_Shift.j0] at h
  | k + 1 => by
    have ih0 := wide_Shift.mono_l k
    · intro y0 y1 y2 y3
      unfold wide_Shift.j0
      repeat' first
      | (with_reducible exact ih0 _ _ _ _)
      | (with_reducible exact LeO.refl _)
      | (with_reducible exact LeO.none _)
      | (with_reducible refine LeO.ite ?_ ?_)
      | (with_reducible refine LeO.bind ?_ (fun _ => ?_))
      | exact ih0 _ _ _ _
      | exact LeO.none _
      | refine LeO.ite ?_ ?_
      | refine LeO.bind ?_ (fun _ => ?_)
theorem wide_Shift.mono : ∀ a0 a1 a2 k, LeO (wide_Shift.f k a0 a1 a2) (wide_Shift.f (k + 1) a0 a1 a2) := by
  intro a0 a1 a2 k
  have ih0 := wide_Shift.mono_l k
  unfold wide_Shift.f
  repeat' first
      | (with_reducible exact ih0 _ _ _ _)
      | (with_reducible exact LeO.refl _)
      | (with_reducible exact LeO.none _)
      | (with_reducible refine LeO.ite ?_ ?_)
      | (with_reducible refine LeO.bind ?_ (fun _ => ?_))
      | exact ih0 _ _ _ _
      | exact LeO.none _
      | refine LeO.ite ?_ ?_
      | refine LeO.bind ?_ (fun _ => ?_)
set_option maxHeartbeats 8000000 in
set_option maxRecDepth 100000 in
theorem wide_Shift.calls (k : Nat) (a0_0 : Int) (a0_1 : Int) (a1 : Int) (r1 : Int) (r2 : Int) (r3 : Int) (w : World) (h : wide_Shift.f k a0_0 a0_1 a1 = some (r1, r2, r3)) :
    Calls Tryd.prog 43 #[.agg #[.int .u64 a0_0, .int .u64 a0_1], .int .i64 a1] w fun e w' => e = .returned (.tuple #[.agg #[.int .u64 r1, .int .u64 r2], .int .i64 r3]) ∧ Below w.heap.size w w' := by
  have hu77 := Tryd.underlying77
  have HB := Aside0.mk (Below.refl w.heap.size w)
  have H : (if (a0_0 == 0 && (a0_1 == 0)) = true then (wide_Shift.j0 k a1 true a0_0 a0_1) else (wide_Shift.j0 k a1 (decide (a1 ≤ (-128))) a0_0 a0_1)) = some (r1, r2, r3) := h
  clear h
  have HC3 := Aside0.mk H
  clear H
  go_enter Tryd.func43, Tryd.ntmps43
  go_upto_region 1 with (first | ((with_reducible refine gate_dst (N := 2) rfl ?_); refine box_event ?hg (N := 2) ?hd (cs := #[.int .u64 a0_0, .int .u64 a0_1]) (t := 77) ?hr ?_; (case hd => rfl); (case hg => rfl); (case hr => first | (go_simp; done) | (go_simp; rfl)); intro gb193 hg w4 hbox hb; have n0_ := Aside0.mk (below_step (by repeat (first | (with_reducible first | exact HB.out | apply below_alloc | apply pw_below_drewN | apply below_drew1) | exact HB.out)) hb); have n1_ := Aside0.mk (hbox); have n2_ := Aside0.mk ((by rw [hg]; exact (below_size (by repeat (first | (with_reducible first | exact HB.out | apply below_alloc | apply pw_below_drewN | apply below_drew1) | exact HB.out))) : w.heap.size ≤ gb193)); have n3_ := Aside0.mk ((by rw [hg]; exact (below_size (by repeat (first | (with_reducible first | exact HB.out | apply below_alloc | apply pw_below_drewN | apply below_drew1) | exact HB.out))) : w.heap.size ≤ gb193)); clear HB; have HB := n0_; have BK193 := n1_; have GW193 := n2_; have GE193 := n3_; clear n0_ n1_ n2_ n3_; clear hb hbox hg) | ((with_reducible refine gate_dst (N := 4) rfl ?_); refine box_event ?hg (N := 4) ?hd (cs := #[.int .u64 0, .int .u64 0]) (t := 77) ?hr ?_; (case hd => rfl); (case hg => rfl); (case hr => first | (go_simp; done) | (go_simp; rfl)); intro gb194 hg w5 hbox hb; have n0_ := Aside0.mk (blk_below (g := gb193) (o := .cells #[.int .u64 a0_0, .int .u64 a0_1] 77 (0, 0)) (by (with_reducible repeat (first | refine blk_drewN ?_ _ | refine blk_drew ?_ | refine blk_alloc ?_ _)); exact BK193.out) hb); have n1_ := Aside0.mk (below_step (by repeat (first | (with_reducible first | exact HB.out | apply below_alloc | apply pw_below_drewN | apply below_drew1 | refine below_set ?_ GE193.out) | exact HB.out)) hb); have n2_ := Aside0.mk (hbox); have n3_ := Aside0.mk ((by rw [hg]; exact (below_size (by repeat (first | (with_reducible first | exact HB.out | apply below_alloc | apply pw_below_drewN | apply below_drew1 | refine below_set ?_ GE193.out) | exact HB.out))) : w.heap.size ≤ gb194)); have n4_ := Aside0.mk ((by rw [hg]; exact (below_size (by repeat (first | (with_reducible first | exact HB.out | apply below_alloc | apply pw_below_drewN | apply below_drew1 | refine below_set ?_ GE193.out) | exact HB.out))) : w.heap.size ≤ gb194)); have n5_ := Aside0.mk ((by rw [hg]; exact Nat.ne_of_lt (blk_lt (g := gb193) (o := .cells #[.int .u64 a0_0, .int .u64 a0_1] 77 (0, 0)) (by (with_reducible repeat (first | refine blk_drewN ?_ _ | refine blk_drew ?_ | refine blk_alloc ?_ _)); exact BK193.out)) : gb193 ≠ gb194)); have n6_ := Aside0.mk ((by rw [hg]; exact Nat.ne_of_gt (blk_lt (g := gb193) (o := .cells #[.int .u64 a0_0, .int .u64 a0_1] 77 (0, 0)) (by (with_reducible repeat (first | refine blk_drewN ?_ _ | refine blk_drew ?_ | refine blk_alloc ?_ _)); exact BK193.out)) : gb194 ≠ gb193)); clear BK193; clear HB; have BK193 := n0_; have HB := n1_; have BK194 := n2_; have GW194 := n3_; have GE194 := n4_; have NB193_194 := n5_; have NB194_193 := n6_; clear n0_ n1_ n2_ n3_ n4_ n5_ n6_; clear hb hbox hg))
  (try simp only [Act.put, List.setIfInBounds_toArray, List.set_cons_zero, List.set_cons_succ])
  go_cut [6] (fun v6 wc => ∃ (kq : Nat) (x6_2 : Bool), v6 = .bool x6_2 ∧ Aside0 (wide_Shift.j0 kq a1 x6_2 a0_0 a0_1 = some (r1, r2, r3)) ∧ Aside0 (kq ≤ k) ∧ Aside0 (wc.heap[gb193]? = some (.cells #[.int .u64 a0_0, .int .u64 a0_1] 77 (0, 0))) ∧ Aside0 (wc.heap[gb194]? = some (.cells #[.int .u64 0, .int .u64 0] 77 (0, 0))) ∧ Aside0 (Below w.heap.size w wc))
  case first =>
    have H := HC3.out
    clear HC3
    by_cases c6 : (a0_0 == 0 && (a0_1 == 0)) = true
    · rw [if_pos c6] at H
      have c6b0 : (a0_0 == 0 && (a0_1 == 0)) = true := c6
      (try (have c6b1 : decide (a0_0 = 0 && (a0_1 == 0)) = true := by simpa using c6))
      (try (have c6b2 : (a0_0 == 0 && (a0_1 == 0)) = true := by simpa using c6))
      clear c6
      (first | rw [c6b0] | (simp only [i64_w, i32_w]; rw [c6b0]) | skip)
      have H' := Aside0.mk H
      clear H
      have hnb7 := NB193_194.out
      have hnc7 := NB194_193.out
      have hcz8_0 : w5.cell? ⟨gb193, 0, none⟩ = some (.int .u64 a0_0) := (blk_cell BK193.out 0).trans rfl
      have hcz8_1 : w5.cell? ⟨gb193, 1, none⟩ = some (.int .u64 a0_1) := (blk_cell BK193.out 1).trans rfl
      have hfz8_0 := blk_frozen BK193.out 0
      have hfz8_1 := blk_frozen BK193.out 1
      go_wp2
      go_meet
      case rel => exact ⟨_, (true), (by first | rfl | (simp; done) | (simp [*]; done)), H', ⟨by first | omega | exact Nat.le_refl _⟩, ⟨by (with_reducible repeat (first | refine blk_drewN ?_ _ | refine blk_drew ?_ | refine blk_alloc ?_ _)); exact BK193.out⟩, ⟨by (with_reducible repeat (first | refine blk_drewN ?_ _ | refine blk_drew ?_ | refine blk_alloc ?_ _)); exact BK194.out⟩, ⟨by repeat (first | (with_reducible first | exact HB.out | apply below_alloc | apply pw_below_drewN | apply below_drew1 | refine below_set ?_ GE193.out | refine below_set ?_ GE194.out) | exact HB.out)⟩⟩
    · rw [if_neg c6] at H
      have c6b0 : (a0_0 == 0 && (a0_1 == 0)) = false := by simpa using c6
      (try (have c6b1 : decide (a0_0 = 0 && (a0_1 == 0)) = false := by simpa using c6))
      (try (have c6b2 : (a0_0 == 0 && (a0_1 == 0)) = false := by simpa using c6))
      (try (have c6b3 : ¬ (a0_0 = 0 && (a0_1 == 0)) := by simpa using c6))
      clear c6
      (first | rw [c6b0] | (simp only [i64_w, i32_w]; rw [c6b0]) | skip)
      have H' := Aside0.mk H
      clear H
      have hnb9 := NB193_194.out
      have hnc9 := NB194_193.out
      have hcz10_0 : w5.cell? ⟨gb193, 0, none⟩ = some (.int .u64 a0_0) := (blk_cell BK193.out 0).trans rfl
      have hcz10_1 : w5.cell? ⟨gb193, 1, none⟩ = some (.int .u64 a0_1) := (blk_cell BK193.out 1).trans rfl
      have hfz10_0 := blk_frozen BK193.out 0
      have hfz10_1 := blk_frozen BK193.out 1
      go_wp2
      go_meet
      case rel => exact ⟨_, (decide (a1 ≤ (-128))), (by first | rfl | (simp; done) | (simp [*]; done)), H', ⟨by first | omega | exact Nat.le_refl _⟩, ⟨by (with_reducible repeat (first | refine blk_drewN ?_ _ | refine blk_drew ?_ | refine blk_alloc ?_ _)); exact BK193.out⟩, ⟨by (with_reducible repeat (first | refine blk_drewN ?_ _ | refine blk_drew ?_ | refine blk_alloc ?_ _)); exact BK194.out⟩, ⟨by repeat (first | (with_reducible first | exact HB.out | apply below_alloc | apply pw_below_drewN | apply below_drew1 | refine below_set ?_ GE193.out | refine below_set ?_ GE194.out) | exact HB.out)⟩⟩
  case rest =>
    clear HC3
    try clear p2
    try clear c4
    try clear c6
    try clear c6b0
    try clear c6b1
    try clear c6b2
    try clear c7
    try clear c9
    try clear hcz10_0
    try clear hcz10_1
    try clear hcz8_0
    try clear hcz8_1
    try clear hfz10_0
    try clear hfz10_1
    try clear hfz8_0
    try clear hfz8_1
    obtain ⟨kq, x6_2, rfl, HA, HJ2, BK193, BK194, HB⟩ := hcut
    cases kq with
    | zero => exact absurd HA.out (by simp [wide_Shift.j0])
    | succ kj2 =>
      have H := HA.out
      clear HA
      simp only [wide_Shift.j0] at H
      by_cases c11 : x6_2 = true
      · subst c11
        have H1 : (some (0, 0, 0)) = some (r1, r2, r3) := by rw [if_pos rfl] at H; exact H
        clear H
        have H := H1
        clear H1
        simp only [Option.some.injEq, Prod.mk.injEq] at H
        obtain ⟨rfl, rfl, rfl⟩ := H
        have hnb12 := NB194_193.out
        have hnc12 := NB193_194.out
        have hcz13_0 : wc.cell? ⟨gb194, 0, none⟩ = some (.int .u64 0) := (blk_cell BK194.out 0).trans rfl
        have hcz13_1 : wc.cell? ⟨gb194, 1, none⟩ = some (.int .u64 0) := (blk_cell BK194.out 1).trans rfl
        have hfz13_0 := blk_frozen BK194.out 0
        have hfz13_1 := blk_frozen BK194.out 1
        go_wp2
        refine bodyPost_ret (results_ct rfl _ _ gb194 77 #[.int .u64 0, .int .u64 0] (0, 0) _ rfl (by (with_reducible repeat (first | refine blk_drewN ?_ _ | refine blk_drew ?_ | refine blk_alloc ?_ _)); refine blk_put (cs := #[.int .u64 0, .int .u64 0]) ?_ 1 _ rfl; (with_reducible repeat (first | refine blk_drewN ?_ _ | refine blk_drew ?_ | refine blk_alloc ?_ _)); refine blk_put (cs := #[.int .u64 0, .int .u64 0]) ?_ 0 _ rfl; (with_reducible repeat (first | refine blk_drewN ?_ _ | refine blk_drew ?_ | refine blk_alloc ?_ _)); exact BK194.out) Tryd.underlying77 rfl (by kernel_rfl)) rfl ?_
        exact ⟨by first | rfl | (simp [errW_none, errW_some] <;> rfl) | (simp [*, errW_none, errW_some] <;> rfl), by repeat (first | (with_reducible first | exact HB.out | apply below_alloc | apply pw_below_drewN | apply below_drew1 | refine below_set ?_ GE193.out | refine below_set ?_ GE194.out) | exact HB.out)⟩
      · replace c11 := Bool.eq_false_iff.mpr c11
        subst c11
        have H1 : (if a1 < 0 then ((wide_right.f a0_0 a0_1 (IntKind.u64.wrap (wrap64 (-a1)))).bind fun bt195 => (some (bt195.1, bt195.2, 0))) else ((wide_Bits.f a0_0 a0_1).bind fun t197 => (if a1 > (wrap64 (128 - t197)) then (some (0, 0, 2)) else ((wide_left.f a0_0 a0_1 (IntKind.u64.wrap (a1))).bind fun bt198 => (some (bt198.1, bt198.2, 0)))))) = some (r1, r2, r3) := by rw [if_neg (show ¬ (false = true) by decide)] at H; exact H
        clear H
        have H := H1
        clear H1
        by_cases c14 : a1 < 0
        · rw [if_pos c14] at H
          have c14b0 : decide (a1 < 0) = true := decide_eq_true c14
          clear c14
          replace H := Option.bind_eq_some_iff.mp H
          obtain ⟨⟨t195, t196⟩, A150, H⟩ := H
          replace H : (some (t195, t196, 0)) = some (r1, r2, r3) := H
          have A15 := Aside0.mk A150
          clear A150
          simp only [Option.some.injEq, Prod.mk.injEq] at H
          obtain ⟨rfl, rfl, rfl⟩ := H
          have hnb16 := NB193_194.out
          have hnc16 := NB194_193.out
          have hcz17_0 : wc.cell? ⟨gb193, 0, none⟩ = some (.int .u64 a0_0) := (blk_cell BK193.out 0).trans rfl
          have hcz17_1 : wc.cell? ⟨gb193, 1, none⟩ = some (.int .u64 a0_1) := (blk_cell BK193.out 1).trans rfl
          have hfz17_0 := blk_frozen BK193.out 0
          have hfz17_1 := blk_frozen BK193.out 1
          go_wp2_with (first | ((with_reducible refine gate_callee (f := 48) rfl ?_); refine goesL_ (some 22) rfl rfl Tryd.func48 (by kernel_rfl) rfl #[.agg #[.int .u64 a0_0, .int .u64 a0_1], .int .u64 (IntKind.u64.wrap (wrap64 (-a1)))] rfl (by (try simp only [List.map_toArray, List.map_cons, List.map_nil]); first | done | rfl | (simp only [List.length_drop, List.length_take]; rfl)) ?_; (with_reducible refine (wide_right.calls a0_0 a0_1 (IntKind.u64.wrap (wrap64 (-a1))) t195 t196 _ A15.out).mono ?_); rintro e w18 ⟨rfl, hb⟩; refine ⟨_, rfl, ?_⟩; have n0_ := Aside0.mk (blk_below (g := gb193) (o := .cells #[.int .u64 a0_0, .int .u64 a0_1] 77 (0, 0)) (by (with_reducible repeat (first | refine blk_drewN ?_ _ | refine blk_drew ?_ | refine blk_alloc ?_ _)); exact BK193.out) hb); have n1_ := Aside0.mk (blk_below (g := gb194) (o := .cells #[.int .u64 0, .int .u64 0] 77 (0, 0)) (by (with_reducible repeat (first | refine blk_drewN ?_ _ | refine blk_drew ?_ | refine blk_alloc ?_ _)); exact BK194.out) hb); have n2_ := Aside0.mk (below_step (by repeat (first | (with_reducible first | exact HB.out | apply below_alloc | apply pw_below_drewN | apply below_drew1 | refine below_set ?_ GE193.out | refine below_set ?_ GE194.out) | exact HB.out)) hb); clear BK193; clear BK194; clear HB; have BK193 := n0_; have BK194 := n1_; have HB := n2_; clear n0_ n1_ n2_; (try clear hb); (try clear hb2); (try clear hk); (try clear hi); have hcz19_0 : w18.cell? ⟨gb194, 0, none⟩ = some (.int .u64 0) := (blk_cell BK194.out 0).trans rfl; have hcz19_1 : w18.cell? ⟨gb194, 1, none⟩ = some (.int .u64 0) := (blk_cell BK194.out 1).trans rfl; have hfz19_0 := blk_frozen BK194.out 0; have hfz19_1 := blk_frozen BK194.out 1))
          refine bodyPost_ret (results_ct rfl _ _ gb194 77 #[.int .u64 t195, .int .u64 t196] (0, 0) _ rfl (by (with_reducible repeat (first | refine blk_drewN ?_ _ | refine blk_drew ?_ | refine blk_alloc ?_ _)); refine blk_put (cs := #[.int .u64 t195, .int .u64 0]) ?_ 1 _ rfl; (with_reducible repeat (first | refine blk_drewN ?_ _ | refine blk_drew ?_ | refine blk_alloc ?_ _)); refine blk_put (cs := #[.int .u64 0, .int .u64 0]) ?_ 0 _ rfl; (with_reducible repeat (first | refine blk_drewN ?_ _ | refine blk_drew ?_ | refine blk_alloc ?_ _)); exact BK194.out) Tryd.underlying77 rfl (by kernel_rfl)) rfl ?_
          exact ⟨by first | rfl | (simp [errW_none, errW_some] <;> rfl) | (simp [*, errW_none, errW_some] <;> rfl), by repeat (first | (with_reducible first | exact HB.out | apply below_alloc | apply pw_below_drewN | apply below_drew1 | refine below_set ?_ GE193.out | refine below_set ?_ GE194.out) | exact HB.out)⟩
        · rw [if_neg c14] at H
          have c14b0 : decide (a1 < 0) = false := decide_eq_false c14
          clear c14
          replace H := Option.bind_eq_some_iff.mp H
          obtain ⟨t197, A200, H⟩ := H
          replace H : (if a1 > (wrap64 (128 - t197)) then (some (0, 0, 2)) else ((wide_left.f a0_0 a0_1 (IntKind.u64.wrap (a1))).bind fun bt198 => (some (bt198.1, bt198.2, 0)))) = some (r1, r2, r3) := H
          have A20 := Aside0.mk A200
          clear A200
          by_cases c21 : a1 > (wrap64 (128 - t197))
          · rw [if_pos c21] at H
            have c21b0 : decide ((wrap64 (128 - t197)) < a1) = true := decide_eq_true c21
            clear c21
            simp only [Option.some.injEq, Prod.mk.injEq] at H
            obtain ⟨rfl, rfl, rfl⟩ := H
            have hnb22 := NB193_194.out
            have hnc22 := NB194_193.out
            have hcz23_0 : wc.cell? ⟨gb193, 0, none⟩ = some (.int .u64 a0_0) := (blk_cell BK193.out 0).trans rfl
            have hcz23_1 : wc.cell? ⟨gb193, 1, none⟩ = some (.int .u64 a0_1) := (blk_cell BK193.out 1).trans rfl
            have hfz23_0 := blk_frozen BK193.out 0
            have hfz23_1 := blk_frozen BK193.out 1
            go_wp2_with (first | ((with_reducible refine gate_callee (f := 49) rfl ?_); refine goesL_ (some 26) rfl rfl Tryd.func49 (by kernel_rfl) rfl #[.agg #[.int .u64 a0_0, .int .u64 a0_1]] rfl (by (try simp only [List.map_toArray, List.map_cons, List.map_nil]); first | done | rfl | (simp only [List.length_drop, List.length_take]; rfl)) ?_; (with_reducible refine (wide_Bits.calls a0_0 a0_1 t197 _ A20.out).mono ?_); rintro e w24 ⟨rfl, hb⟩; refine ⟨_, rfl, ?_⟩; have n0_ := Aside0.mk (blk_below (g := gb193) (o := .cells #[.int .u64 a0_0, .int .u64 a0_1] 77 (0, 0)) (by (with_reducible repeat (first | refine blk_drewN ?_ _ | refine blk_drew ?_ | refine blk_alloc ?_ _)); exact BK193.out) hb); have n1_ := Aside0.mk (blk_below (g := gb194) (o := .cells #[.int .u64 0, .int .u64 0] 77 (0, 0)) (by (with_reducible repeat (first | refine blk_drewN ?_ _ | refine blk_drew ?_ | refine blk_alloc ?_ _)); exact BK194.out) hb); have n2_ := Aside0.mk (below_step (by repeat (first | (with_reducible first | exact HB.out | apply below_alloc | apply pw_below_drewN | apply below_drew1 | refine below_set ?_ GE193.out | refine below_set ?_ GE194.out) | exact HB.out)) hb); clear BK193; clear BK194; clear HB; have BK193 := n0_; have BK194 := n1_; have HB := n2_; clear n0_ n1_ n2_; (try clear hb); (try clear hb2); (try clear hk); (try clear hi); have hcz25_0 : w24.cell? ⟨gb194, 0, none⟩ = some (.int .u64 0) := (blk_cell BK194.out 0).trans rfl; have hcz25_1 : w24.cell? ⟨gb194, 1, none⟩ = some (.int .u64 0) := (blk_cell BK194.out 1).trans rfl; have hfz25_0 := blk_frozen BK194.out 0; have hfz25_1 := blk_frozen BK194.out 1))
            refine bodyPost_ret (results_ct rfl _ _ gb194 77 #[.int .u64 0, .int .u64 0] (0, 0) _ rfl (by (with_reducible repeat (first | refine blk_drewN ?_ _ | refine blk_drew ?_ | refine blk_alloc ?_ _)); refine blk_put (cs := #[.int .u64 0, .int .u64 0]) ?_ 1 _ rfl; (with_reducible repeat (first | refine blk_drewN ?_ _ | refine blk_drew ?_ | refine blk_alloc ?_ _)); refine blk_put (cs := #[.int .u64 0, .int .u64 0]) ?_ 0 _ rfl; (with_reducible repeat (first | refine blk_drewN ?_ _ | refine blk_drew ?_ | refine blk_alloc ?_ _)); exact BK194.out) Tryd.underlying77 rfl (by kernel_rfl)) rfl ?_
            exact ⟨by first | rfl | (simp [errW_none, errW_some] <;> rfl) | (simp [*, errW_none, errW_some] <;> rfl), by repeat (first | (with_reducible first | exact HB.out | apply below_alloc | apply pw_below_drewN | apply below_drew1 | refine below_set ?_ GE193.out | refine below_set ?_ GE194.out) | exact HB.out)⟩
          · rw [if_neg c21] at H
            have c21b0 : decide ((wrap64 (128 - t197)) < a1) = false := decide_eq_false c21
            clear c21
            replace H := Option.bind_eq_some_iff.mp H
            obtain ⟨⟨t198, t199⟩, A260, H⟩ := H
            replace H : (some (t198, t199, 0)) = some (r1, r2, r3) := H
            have A26 := Aside0.mk A260
            clear A260
            simp only [Option.some.injEq, Prod.mk.injEq] at H
            obtain ⟨rfl, rfl, rfl⟩ := H
            have hnb27 := NB193_194.out
            have hnc27 := NB194_193.out
            have hcz28_0 : wc.cell? ⟨gb193, 0, none⟩ = some (.int .u64 a0_0) := (blk_cell BK193.out 0).trans rfl
            have hcz28_1 : wc.cell? ⟨gb193, 1, none⟩ = some (.int .u64 a0_1) := (blk_cell BK193.out 1).trans rfl
            have hfz28_0 := blk_frozen BK193.out 0
            have hfz28_1 := blk_frozen BK193.out 1
            go_wp2_with (first | ((with_reducible refine gate_callee (f := 49) rfl ?_); refine goesL_ (some 26) rfl rfl Tryd.func49 (by kernel_rfl) rfl #[.agg #[.int .u64 a0_0, .int .u64 a0_1]] rfl (by (try simp only [List.map_toArray, List.map_cons, List.map_nil]); first | done | rfl | (simp only [List.length_drop, List.length_take]; rfl)) ?_; (with_reducible refine (wide_Bits.calls a0_0 a0_1 t197 _ A20.out).mono ?_); rintro e w29 ⟨rfl, hb⟩; refine ⟨_, rfl, ?_⟩; have n0_ := Aside0.mk (blk_below (g := gb193) (o := .cells #[.int .u64 a0_0, .int .u64 a0_1] 77 (0, 0)) (by (with_reducible repeat (first | refine blk_drewN ?_ _ | refine blk_drew ?_ | refine blk_alloc ?_ _)); exact BK193.out) hb); have n1_ := Aside0.mk (blk_below (g := gb194) (o := .cells #[.int .u64 0, .int .u64 0] 77 (0, 0)) (by (with_reducible repeat (first | refine blk_drewN ?_ _ | refine blk_drew ?_ | refine blk_alloc ?_ _)); exact BK194.out) hb); have n2_ := Aside0.mk (below_step (by repeat (first | (with_reducible first | exact HB.out | apply below_alloc | apply pw_below_drewN | apply below_drew1 | refine below_set ?_ GE193.out | refine below_set ?_ GE194.out) | exact HB.out)) hb); clear BK193; clear BK194; clear HB; have BK193 := n0_; have BK194 := n1_; have HB := n2_; clear n0_ n1_ n2_; (try clear hb); (try clear hb2); (try clear hk); (try clear hi); have hcz30_0 : w29.cell? ⟨gb193, 0, none⟩ = some (.int .u64 a0_0) := (blk_cell BK193.out 0).trans rfl; have hcz30_1 : w29.cell? ⟨gb193, 1, none⟩ = some (.int .u64 a0_1) := (blk_cell BK193.out 1).trans rfl; have hfz30_0 := blk_frozen BK193.out 0; have hfz30_1 := blk_frozen BK193.out 1) | ((with_reducible refine gate_callee (f := 50) rfl ?_); refine goesL_ (some 33) rfl rfl Tryd.func50 (by kernel_rfl) rfl #[.agg #[.int .u64 a0_0, .int .u64 a0_1], .int .u64 (IntKind.u64.wrap (a1))] rfl (by (try simp only [List.map_toArray, List.map_cons, List.map_nil]); first | done | rfl | (simp only [List.length_drop, List.length_take]; rfl)) ?_; (with_reducible refine (wide_left.calls a0_0 a0_1 (IntKind.u64.wrap (a1)) t198 t199 _ A26.out).mono ?_); rintro e w31 ⟨rfl, hb⟩; refine ⟨_, rfl, ?_⟩; have n0_ := Aside0.mk (blk_below (g := gb193) (o := .cells #[.int .u64 a0_0, .int .u64 a0_1] 77 (0, 0)) (by (with_reducible repeat (first | refine blk_drewN ?_ _ | refine blk_drew ?_ | refine blk_alloc ?_ _)); exact BK193.out) hb); have n1_ := Aside0.mk (blk_below (g := gb194) (o := .cells #[.int .u64 0, .int .u64 0] 77 (0, 0)) (by (with_reducible repeat (first | refine blk_drewN ?_ _ | refine blk_drew ?_ | refine blk_alloc ?_ _)); exact BK194.out) hb); have n2_ := Aside0.mk (below_step (by repeat (first | (with_reducible first | exact HB.out | apply below_alloc | apply pw_below_drewN | apply below_drew1 | refine below_set ?_ GE193.out | refine below_set ?_ GE194.out) | exact HB.out)) hb); clear BK193; clear BK194; clear HB; have BK193 := n0_; have BK194 := n1_; have HB := n2_; clear n0_ n1_ n2_; (try clear hb); (try clear hb2); (try clear hk); (try clear hi); have hcz32_0 : w31.cell? ⟨gb194, 0, none⟩ = some (.int .u64 0) := (blk_cell BK194.out 0).trans rfl; have hcz32_1 : w31.cell? ⟨gb194, 1, none⟩ = some (.int .u64 0) := (blk_cell BK194.out 1).trans rfl; have hfz32_0 := blk_frozen BK194.out 0; have hfz32_1 := blk_frozen BK194.out 1))
            refine bodyPost_ret (results_ct rfl _ _ gb194 77 #[.int .u64 t198, .int .u64 t199] (0, 0) _ rfl (by (with_reducible repeat (first | refine blk_drewN ?_ _ | refine blk_drew ?_ | refine blk_alloc ?_ _)); refine blk_put (cs := #[.int .u64 t198, .int .u64 0]) ?_ 1 _ rfl; (with_reducible repeat (first | refine blk_drewN ?_ _ | refine blk_drew ?_ | refine blk_alloc ?_ _)); refine blk_put (cs := #[.int .u64 0, .int .u64 0]) ?_ 0 _ rfl; (with_reducible repeat (first | refine blk_drewN ?_ _ | refine blk_drew ?_ | refine blk_alloc ?_ _)); exact BK194.out) Tryd.underlying77 rfl (by kernel_rfl)) rfl ?_
            exact ⟨by first | rfl | (simp [errW_none, errW_some] <;> rfl) | (simp [*, errW_none, errW_some] <;> rfl), by repeat (first | (with_reducible first | exact HB.out | apply below_alloc | apply pw_below_drewN | apply below_drew1 | refine below_set ?_ GE193.out | refine below_set ?_ GE194.out) | exact HB.out)⟩

end Go.Proofs.YtjcgmjhcaaaieaaDoor.Pr
