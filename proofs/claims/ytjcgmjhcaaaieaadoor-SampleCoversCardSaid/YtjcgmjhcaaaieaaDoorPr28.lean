-- printed by a program of this session's (wip/mp.sh), out of the translation; the texts of its folder 'given' are typed by hand
import Derived.Test.YtjcgmjhcaaaieaaDoorPr0
import Derived.Test.YtjcgmjhcaaaieaaDoorPr27
namespace Go.Proofs.YtjcgmjhcaaaieaaDoor.Pr
open Go.RowKit Go.Proofs.YtjcgmjhcaaaieaaDoorW.PrintWords Go.Proofs.YtjcgmjhcaaaieaaDoorW.PrintLast Go.Proofs.YtjcgmjhcaaaieaaDoorW.PrintMore
attribute [local go_sem] max2_int min2_int max_two min_two max_three min_three max_four min_four   -- for this text's walks alone
attribute [local go_sem high] eqA32
set_option linter.unusedVariables false
set_option linter.unusedSimpArgs false

/-! ### sample_Cover: function 12 -/
def sample_Cover.j0 : Nat → Int → Int → Bool → Int → Int → Option (Int × Int)
  | 0, _, _, _, _, _ => none
  | k + 1, x0, x1, x35, x252000, x252001 => if x35 = true then (some (0, 1)) else (if (wrap64 ((wrap64 (Int.tdiv (wrap64 (255 * (wrap64 (65536 * x252001)))) 2)) + (wrap64 ((wrap64 (((2 * (mn (mx x0 0) 16711680)) - 16711680) * x1)) * x252000)))) < 0 then (some (0, 0)) else (if (wrap64 (65536 * x252001)) = 0 then (none) else (some ((mn (wrap64 (Int.tdiv (wrap64 ((wrap64 (Int.tdiv (wrap64 (255 * (wrap64 (65536 * x252001)))) 2)) + (wrap64 ((wrap64 (((2 * (mn (mx x0 0) 16711680)) - 16711680) * x1)) * x252000)))) (wrap64 (65536 * x252001)))) 255) % 256, 0))))
def sample_Cover.f (k : Nat) (a0 : Int) (a1 : Int) (a2_0 : Int) (a2_1 : Int) : Option (Int × Int) := if a1 < 1 then (sample_Cover.j0 k a0 a1 true a2_0 a2_1) else (if a1 > 16 then (sample_Cover.j0 k a0 a1 true a2_0 a2_1) else ((ratio_May.f k a2_0 a2_1).bind fun t252 => (if t252 = true then (if a2_0 ≤ 0 then (sample_Cover.j0 k a0 a1 true a2_0 a2_1) else (if a2_0 > 1073741824 then (sample_Cover.j0 k a0 a1 true a2_0 a2_1) else (sample_Cover.j0 k a0 a1 (decide (a2_1 > 1073741824)) a2_0 a2_1))) else (sample_Cover.j0 k a0 a1 true a2_0 a2_1))))
theorem sample_Cover.mono_l : ∀ k, (∀ y0 y1 y2 y3 y4, LeO (sample_Cover.j0 k y0 y1 y2 y3 y4) (sample_Cover.j0 (k + 1) y0 y1 y2 y3 y4))
  | 0 => fun _ _ _ _ _ r h => by simp [sample_Cover.j0] at h
  | k + 1 => by
    have ih0 := sample_Cover.mono_l k
    · intro y0 y1 y2 y3 y4
      unfold sample_Cover.j0
      repeat' first
      | (with_reducible exact ih0 _ _ _ _ _)
      | (with_reducible exact ratio_May.mono _ _ _)
      | (with_reducible exact LeO.refl _)
      | (with_reducible exact LeO.none _)
      | (with_reducible refine LeO.ite ?_ ?_)
      | (with_reducible refine LeO.bind ?_ (fun _ => ?_))
      | exact ih0 _ _ _ _ _
      | exact ratio_May.mono _ _ _
      | exact LeO.none _
      | refine LeO.ite ?_ ?_
      | refine LeO.bind ?_ (fun _ => ?_)
theorem sample_Cover.mono : ∀ a0 a1 a2 a3 k, LeO (sample_Cover.f k a0 a1 a2 a3) (sample_Cover.f (k + 1) a0 a1 a2 a3) := by
  intro a0 a1 a2 a3 k
  have ih0 := sample_Cover.mono_l k
  unfold sample_Cover.f
  repeat' first
      | (with_reducible exact ih0 _ _ _ _ _)
      | (with_reducible exact ratio_May.mono _ _ _)
      | (with_reducible exact LeO.refl _)
      | (with_reducible exact LeO.none _)
      | (with_reducible refine LeO.ite ?_ ?_)
      | (with_reducible refine LeO.bind ?_ (fun _ => ?_))
      | exact ih0 _ _ _ _ _
      | exact ratio_May.mono _ _ _
      | exact LeO.none _
      | refine LeO.ite ?_ ?_
      | refine LeO.bind ?_ (fun _ => ?_)
set_option maxHeartbeats 8000000 in
set_option maxRecDepth 100000 in
theorem sample_Cover.calls (k : Nat) (a0 : Int) (a1 : Int) (a2_0 : Int) (a2_1 : Int) (r1 : Int) (r2 : Int) (w : World) (h : sample_Cover.f k a0 a1 a2_0 a2_1 = some (r1, r2)) (hTab : HasTab w) :
    Calls Tryd.prog 12 #[.int .i64 a0, .int .i64 a1, .agg #[.int .i64 a2_0, .int .i64 a2_1]] w fun e w' => e = .returned (.tuple #[.int .u8 r1, .int .i64 r2]) ∧ Below w.heap.size w w' := by
  have hu42 := Tryd.underlying42
  have HB := Aside0.mk (Below.refl w.heap.size w)
  have H : (if a1 < 1 then (sample_Cover.j0 k a0 a1 true a2_0 a2_1) else (if a1 > 16 then (sample_Cover.j0 k a0 a1 true a2_0 a2_1) else ((ratio_May.f k a2_0 a2_1).bind fun t252 => (if t252 = true then (if a2_0 ≤ 0 then (sample_Cover.j0 k a0 a1 true a2_0 a2_1) else (if a2_0 > 1073741824 then (sample_Cover.j0 k a0 a1 true a2_0 a2_1) else (sample_Cover.j0 k a0 a1 (decide (a2_1 > 1073741824)) a2_0 a2_1))) else (sample_Cover.j0 k a0 a1 true a2_0 a2_1))))) = some (r1, r2) := h
  clear h
  have HC4 := Aside0.mk H
  clear H
  go_enter Tryd.func12, Tryd.ntmps12
  go_upto_region 1 with (first | ((with_reducible refine gate_dst (N := 5) rfl ?_); refine box_event ?hg (N := 5) ?hd (cs := #[.int .i64 a2_0, .int .i64 a2_1]) (t := 42) ?hr ?_; (case hd => rfl); (case hg => rfl); (case hr => first | (go_simp; done) | (go_simp; rfl)); intro gb251 hg w5 hbox hb; have n0_ := Aside0.mk (below_step (by repeat (first | (with_reducible first | exact HB.out | apply below_alloc | apply pw_below_drewN | apply below_drew1) | exact HB.out)) hb); have n1_ := Aside0.mk (hbox); have n2_ := Aside0.mk ((by rw [hg]; exact (below_size (by repeat (first | (with_reducible first | exact HB.out | apply below_alloc | apply pw_below_drewN | apply below_drew1) | exact HB.out))) : w.heap.size ≤ gb251)); have n3_ := Aside0.mk ((by rw [hg]; exact (below_size (by repeat (first | (with_reducible first | exact HB.out | apply below_alloc | apply pw_below_drewN | apply below_drew1) | exact HB.out))) : w.heap.size ≤ gb251)); clear HB; have HB := n0_; have BK251 := n1_; have GW251 := n2_; have GE251 := n3_; clear n0_ n1_ n2_ n3_; clear hb hbox hg))
  (try simp only [Act.put, List.setIfInBounds_toArray, List.set_cons_zero, List.set_cons_succ])
  go_cut [35] (fun v35 wc => ∃ (kq : Nat) (x35_3 : Bool), v35 = .bool x35_3 ∧ Aside0 (sample_Cover.j0 kq a0 a1 x35_3 a2_0 a2_1 = some (r1, r2)) ∧ Aside0 (kq ≤ k) ∧ Aside0 (wc.heap[gb251]? = some (.cells #[.int .i64 a2_0, .int .i64 a2_1] 42 (0, 0))) ∧ Aside0 (Below w.heap.size w wc))
  case first =>
    have H := HC4.out
    clear HC4
    by_cases c6 : a1 < 1
    · rw [if_pos c6] at H
      have c6b0 : decide (a1 < 1) = true := decide_eq_true c6
      clear c6
      (first | rw [c6b0] | (simp only [i64_w, i32_w]; rw [c6b0]) | skip)
      have H' := Aside0.mk H
      clear H
      go_wp2
      go_meet
      case rel => exact ⟨_, (true), (by first | rfl | (simp; done) | (simp [*]; done)), H', ⟨by first | omega | exact Nat.le_refl _⟩, ⟨by (with_reducible repeat (first | refine blk_drewN ?_ _ | refine blk_drew ?_ | refine blk_alloc ?_ _)); exact BK251.out⟩, ⟨by repeat (first | (with_reducible first | exact HB.out | apply below_alloc | apply pw_below_drewN | apply below_drew1 | refine below_set ?_ GE251.out) | exact HB.out)⟩⟩
    · rw [if_neg c6] at H
      have c6b0 : decide (a1 < 1) = false := decide_eq_false c6
      clear c6
      (first | rw [c6b0] | (simp only [i64_w, i32_w]; rw [c6b0]) | skip)
      by_cases c7 : a1 > 16
      · rw [if_pos c7] at H
        have c7b0 : decide (16 < a1) = true := decide_eq_true c7
        clear c7
        have H' := Aside0.mk H
        clear H
        go_wp2
        go_meet
        case rel => exact ⟨_, (true), (by first | rfl | (simp; done) | (simp [*]; done)), H', ⟨by first | omega | exact Nat.le_refl _⟩, ⟨by (with_reducible repeat (first | refine blk_drewN ?_ _ | refine blk_drew ?_ | refine blk_alloc ?_ _)); exact BK251.out⟩, ⟨by repeat (first | (with_reducible first | exact HB.out | apply below_alloc | apply pw_below_drewN | apply below_drew1 | refine below_set ?_ GE251.out) | exact HB.out)⟩⟩
      · rw [if_neg c7] at H
        have c7b0 : decide (16 < a1) = false := decide_eq_false c7
        clear c7
        replace H := Option.bind_eq_some_iff.mp H
        obtain ⟨t252, A80, H⟩ := H
        replace H : (if t252 = true then (if a2_0 ≤ 0 then (sample_Cover.j0 k a0 a1 true a2_0 a2_1) else (if a2_0 > 1073741824 then (sample_Cover.j0 k a0 a1 true a2_0 a2_1) else (sample_Cover.j0 k a0 a1 (decide (a2_1 > 1073741824)) a2_0 a2_1))) else (sample_Cover.j0 k a0 a1 true a2_0 a2_1)) = some (r1, r2) := H
        have A8 := Aside0.mk A80
        clear A80
        by_cases c9 : t252 = true
        · subst c9
          have H1 : (if a2_0 ≤ 0 then (sample_Cover.j0 k a0 a1 true a2_0 a2_1) else (if a2_0 > 1073741824 then (sample_Cover.j0 k a0 a1 true a2_0 a2_1) else (sample_Cover.j0 k a0 a1 (decide (a2_1 > 1073741824)) a2_0 a2_1))) = some (r1, r2) := by rw [if_pos rfl] at H; exact H
          clear H
          have H := H1
          clear H1
          by_cases c10 : a2_0 ≤ 0
          · rw [if_pos c10] at H
            have c10b0 : decide (a2_0 ≤ 0) = true := decide_eq_true c10
            clear c10
            have H' := Aside0.mk H
            clear H
            have hcz11_0 : w5.cell? ⟨gb251, 0, none⟩ = some (.int .i64 a2_0) := (blk_cell BK251.out 0).trans rfl
            have hcz11_1 : w5.cell? ⟨gb251, 1, none⟩ = some (.int .i64 a2_1) := (blk_cell BK251.out 1).trans rfl
            have hfz11_0 := blk_frozen BK251.out 0
            have hfz11_1 := blk_frozen BK251.out 1
            go_wp2_with (first | (go_at_call 22; (with_reducible refine (ratio_May.calls k a2_0 a2_1 true _ A8.out (hTab.below (by repeat (first | (with_reducible first | exact HB.out | apply below_alloc | apply pw_below_drewN | apply below_drew1 | refine below_set ?_ GE251.out) | exact HB.out)))).mono ?_); rintro e w12 ⟨rfl, hb⟩; have n0_ := Aside0.mk (blk_below (g := gb251) (o := .cells #[.int .i64 a2_0, .int .i64 a2_1] 42 (0, 0)) (by (with_reducible repeat (first | refine blk_drewN ?_ _ | refine blk_drew ?_ | refine blk_alloc ?_ _)); exact BK251.out) hb); have n1_ := Aside0.mk (below_step (by repeat (first | (with_reducible first | exact HB.out | apply below_alloc | apply pw_below_drewN | apply below_drew1 | refine below_set ?_ GE251.out) | exact HB.out)) hb); clear BK251; clear HB; have BK251 := n0_; have HB := n1_; clear n0_ n1_; (try clear hb); (try clear hb2); (try clear hk); (try clear hi); have hcz13_0 : w12.cell? ⟨gb251, 0, none⟩ = some (.int .i64 a2_0) := (blk_cell BK251.out 0).trans rfl; have hcz13_1 : w12.cell? ⟨gb251, 1, none⟩ = some (.int .i64 a2_1) := (blk_cell BK251.out 1).trans rfl; have hfz13_0 := blk_frozen BK251.out 0; have hfz13_1 := blk_frozen BK251.out 1))
            go_meet
            case rel => exact ⟨_, (true), (by first | rfl | (simp; done) | (simp [*]; done)), H', ⟨by first | omega | exact Nat.le_refl _⟩, ⟨by (with_reducible repeat (first | refine blk_drewN ?_ _ | refine blk_drew ?_ | refine blk_alloc ?_ _)); exact BK251.out⟩, ⟨by repeat (first | (with_reducible first | exact HB.out | apply below_alloc | apply pw_below_drewN | apply below_drew1 | refine below_set ?_ GE251.out) | exact HB.out)⟩⟩
          · rw [if_neg c10] at H
            have c10b0 : decide (a2_0 ≤ 0) = false := decide_eq_false c10
            clear c10
            by_cases c14 : a2_0 > 1073741824
            · rw [if_pos c14] at H
              have c14b0 : decide (1073741824 < a2_0) = true := decide_eq_true c14
              clear c14
              have H' := Aside0.mk H
              clear H
              have hcz15_0 : w5.cell? ⟨gb251, 0, none⟩ = some (.int .i64 a2_0) := (blk_cell BK251.out 0).trans rfl
              have hcz15_1 : w5.cell? ⟨gb251, 1, none⟩ = some (.int .i64 a2_1) := (blk_cell BK251.out 1).trans rfl
              have hfz15_0 := blk_frozen BK251.out 0
              have hfz15_1 := blk_frozen BK251.out 1
              go_wp2_with (first | (go_at_call 22; (with_reducible refine (ratio_May.calls k a2_0 a2_1 true _ A8.out (hTab.below (by repeat (first | (with_reducible first | exact HB.out | apply below_alloc | apply pw_below_drewN | apply below_drew1 | refine below_set ?_ GE251.out) | exact HB.out)))).mono ?_); rintro e w16 ⟨rfl, hb⟩; have n0_ := Aside0.mk (blk_below (g := gb251) (o := .cells #[.int .i64 a2_0, .int .i64 a2_1] 42 (0, 0)) (by (with_reducible repeat (first | refine blk_drewN ?_ _ | refine blk_drew ?_ | refine blk_alloc ?_ _)); exact BK251.out) hb); have n1_ := Aside0.mk (below_step (by repeat (first | (with_reducible first | exact HB.out | apply below_alloc | apply pw_below_drewN | apply below_drew1 | refine below_set ?_ GE251.out) | exact HB.out)) hb); clear BK251; clear HB; have BK251 := n0_; have HB := n1_; clear n0_ n1_; (try clear hb); (try clear hb2); (try clear hk); (try clear hi); have hcz17_0 : w16.cell? ⟨gb251, 0, none⟩ = some (.int .i64 a2_0) := (blk_cell BK251.out 0).trans rfl; have hcz17_1 : w16.cell? ⟨gb251, 1, none⟩ = some (.int .i64 a2_1) := (blk_cell BK251.out 1).trans rfl; have hfz17_0 := blk_frozen BK251.out 0; have hfz17_1 := blk_frozen BK251.out 1))
              go_meet
              case rel => exact ⟨_, (true), (by first | rfl | (simp; done) | (simp [*]; done)), H', ⟨by first | omega | exact Nat.le_refl _⟩, ⟨by (with_reducible repeat (first | refine blk_drewN ?_ _ | refine blk_drew ?_ | refine blk_alloc ?_ _)); exact BK251.out⟩, ⟨by repeat (first | (with_reducible first | exact HB.out | apply below_alloc | apply pw_below_drewN | apply below_drew1 | refine below_set ?_ GE251.out) | exact HB.out)⟩⟩
            · rw [if_neg c14] at H
              have c14b0 : decide (1073741824 < a2_0) = false := decide_eq_false c14
              clear c14
              have H' := Aside0.mk H
              clear H
              have hcz18_0 : w5.cell? ⟨gb251, 0, none⟩ = some (.int .i64 a2_0) := (blk_cell BK251.out 0).trans rfl
              have hcz18_1 : w5.cell? ⟨gb251, 1, none⟩ = some (.int .i64 a2_1) := (blk_cell BK251.out 1).trans rfl
              have hfz18_0 := blk_frozen BK251.out 0
              have hfz18_1 := blk_frozen BK251.out 1
              go_wp2_with (first | (go_at_call 22; (with_reducible refine (ratio_May.calls k a2_0 a2_1 true _ A8.out (hTab.below (by repeat (first | (with_reducible first | exact HB.out | apply below_alloc | apply pw_below_drewN | apply below_drew1 | refine below_set ?_ GE251.out) | exact HB.out)))).mono ?_); rintro e w19 ⟨rfl, hb⟩; have n0_ := Aside0.mk (blk_below (g := gb251) (o := .cells #[.int .i64 a2_0, .int .i64 a2_1] 42 (0, 0)) (by (with_reducible repeat (first | refine blk_drewN ?_ _ | refine blk_drew ?_ | refine blk_alloc ?_ _)); exact BK251.out) hb); have n1_ := Aside0.mk (below_step (by repeat (first | (with_reducible first | exact HB.out | apply below_alloc | apply pw_below_drewN | apply below_drew1 | refine below_set ?_ GE251.out) | exact HB.out)) hb); clear BK251; clear HB; have BK251 := n0_; have HB := n1_; clear n0_ n1_; (try clear hb); (try clear hb2); (try clear hk); (try clear hi); have hcz20_0 : w19.cell? ⟨gb251, 0, none⟩ = some (.int .i64 a2_0) := (blk_cell BK251.out 0).trans rfl; have hcz20_1 : w19.cell? ⟨gb251, 1, none⟩ = some (.int .i64 a2_1) := (blk_cell BK251.out 1).trans rfl; have hfz20_0 := blk_frozen BK251.out 0; have hfz20_1 := blk_frozen BK251.out 1))
              go_meet
              case rel => exact ⟨_, (decide (a2_1 > 1073741824)), (by first | rfl | (simp; done) | (simp [*]; done)), H', ⟨by first | omega | exact Nat.le_refl _⟩, ⟨by (with_reducible repeat (first | refine blk_drewN ?_ _ | refine blk_drew ?_ | refine blk_alloc ?_ _)); exact BK251.out⟩, ⟨by repeat (first | (with_reducible first | exact HB.out | apply below_alloc | apply pw_below_drewN | apply below_drew1 | refine below_set ?_ GE251.out) | exact HB.out)⟩⟩
        · replace c9 := Bool.eq_false_iff.mpr c9
          subst c9
          have H1 : (sample_Cover.j0 k a0 a1 true a2_0 a2_1) = some (r1, r2) := by rw [if_neg (show ¬ (false = true) by decide)] at H; exact H
          clear H
          have H := H1
          clear H1
          have H' := Aside0.mk H
          clear H
          have hcz21_0 : w5.cell? ⟨gb251, 0, none⟩ = some (.int .i64 a2_0) := (blk_cell BK251.out 0).trans rfl
          have hcz21_1 : w5.cell? ⟨gb251, 1, none⟩ = some (.int .i64 a2_1) := (blk_cell BK251.out 1).trans rfl
          have hfz21_0 := blk_frozen BK251.out 0
          have hfz21_1 := blk_frozen BK251.out 1
          go_wp2_with (first | (go_at_call 22; (with_reducible refine (ratio_May.calls k a2_0 a2_1 false _ A8.out (hTab.below (by repeat (first | (with_reducible first | exact HB.out | apply below_alloc | apply pw_below_drewN | apply below_drew1 | refine below_set ?_ GE251.out) | exact HB.out)))).mono ?_); rintro e w22 ⟨rfl, hb⟩; have n0_ := Aside0.mk (blk_below (g := gb251) (o := .cells #[.int .i64 a2_0, .int .i64 a2_1] 42 (0, 0)) (by (with_reducible repeat (first | refine blk_drewN ?_ _ | refine blk_drew ?_ | refine blk_alloc ?_ _)); exact BK251.out) hb); have n1_ := Aside0.mk (below_step (by repeat (first | (with_reducible first | exact HB.out | apply below_alloc | apply pw_below_drewN | apply below_drew1 | refine below_set ?_ GE251.out) | exact HB.out)) hb); clear BK251; clear HB; have BK251 := n0_; have HB := n1_; clear n0_ n1_; (try clear hb); (try clear hb2); (try clear hk); (try clear hi)))
          go_meet
          case rel => exact ⟨_, (true), (by first | rfl | (simp; done) | (simp [*]; done)), H', ⟨by first | omega | exact Nat.le_refl _⟩, ⟨by (with_reducible repeat (first | refine blk_drewN ?_ _ | refine blk_drew ?_ | refine blk_alloc ?_ _)); exact BK251.out⟩, ⟨by repeat (first | (with_reducible first | exact HB.out | apply below_alloc | apply pw_below_drewN | apply below_drew1 | refine below_set ?_ GE251.out) | exact HB.out)⟩⟩
  case rest =>
    clear HC4
    try clear c1
    try clear p2
    try clear c6
    try clear c6b0
    try clear c7
    try clear c7b0
    try clear c9
    try clear c10
    try clear c10b0
    try clear c12
    try clear c14
    try clear c14b0
    try clear hcz11_0
    try clear hcz11_1
    try clear hcz13_0
    try clear hcz13_1
    try clear hcz15_0
    try clear hcz15_1
    try clear hcz17_0
    try clear hcz17_1
    try clear hcz18_0
    try clear hcz18_1
    try clear hcz20_0
    try clear hcz20_1
    try clear hcz21_0
    try clear hcz21_1
    try clear hfz11_0
    try clear hfz11_1
    try clear hfz13_0
    try clear hfz13_1
    try clear hfz15_0
    try clear hfz15_1
    try clear hfz17_0
    try clear hfz17_1
    try clear hfz18_0
    try clear hfz18_1
    try clear hfz20_0
    try clear hfz20_1
    try clear hfz21_0
    try clear hfz21_1
    obtain ⟨kq, x35_3, rfl, HA, HJ3, BK251, HB⟩ := hcut
    cases kq with
    | zero => exact absurd HA.out (by simp [sample_Cover.j0])
    | succ kj3 =>
      have H := HA.out
      clear HA
      simp only [sample_Cover.j0] at H
      by_cases c23 : x35_3 = true
      · subst c23
        have H1 : (some (0, 1)) = some (r1, r2) := by rw [if_pos rfl] at H; exact H
        clear H
        have H := H1
        clear H1
        simp only [Option.some.injEq, Prod.mk.injEq] at H
        obtain ⟨rfl, rfl⟩ := H
        go_wp2
        go_ret2
        exact ⟨by first | rfl | (simp [errW_none, errW_some] <;> rfl) | (simp [*, errW_none, errW_some] <;> rfl), by repeat (first | (with_reducible first | exact HB.out | apply below_alloc | apply pw_below_drewN | apply below_drew1 | refine below_set ?_ GE251.out) | exact HB.out)⟩
      · replace c23 := Bool.eq_false_iff.mpr c23
        subst c23
        have H1 : (if (wrap64 ((wrap64 (Int.tdiv (wrap64 (255 * (wrap64 (65536 * a2_1)))) 2)) + (wrap64 ((wrap64 (((2 * (mn (mx a0 0) 16711680)) - 16711680) * a1)) * a2_0)))) < 0 then (some (0, 0)) else (if (wrap64 (65536 * a2_1)) = 0 then (none) else (some ((mn (wrap64 (Int.tdiv (wrap64 ((wrap64 (Int.tdiv (wrap64 (255 * (wrap64 (65536 * a2_1)))) 2)) + (wrap64 ((wrap64 (((2 * (mn (mx a0 0) 16711680)) - 16711680) * a1)) * a2_0)))) (wrap64 (65536 * a2_1)))) 255) % 256, 0)))) = some (r1, r2) := by rw [if_neg (show ¬ (false = true) by decide)] at H; exact H
        clear H
        have H := H1
        clear H1
        obtain ⟨ji24, hji24⟩ : ∃ j_ : Int, (mx a0 0) = j_ := ⟨_, rfl⟩
        replace H : (if (wrap64 ((wrap64 (Int.tdiv (wrap64 (255 * (wrap64 (65536 * a2_1)))) 2)) + (wrap64 ((wrap64 (((2 * (mn (ji24) 16711680)) - 16711680) * a1)) * a2_0)))) < 0 then (some (0, 0)) else (if (wrap64 (65536 * a2_1)) = 0 then (none) else (some ((mn (wrap64 (Int.tdiv (wrap64 ((wrap64 (Int.tdiv (wrap64 (255 * (wrap64 (65536 * a2_1)))) 2)) + (wrap64 ((wrap64 (((2 * (mn (ji24) 16711680)) - 16711680) * a1)) * a2_0)))) (wrap64 (65536 * a2_1)))) 255) % 256, 0)))) = some (r1, r2) := by first | (rw [hji24] at H; exact H) | (simp only [hji24] at H ⊢; exact H)
        have hji24_ : (if a0 < 0 then 0 else a0) = ji24 := hji24
        obtain ⟨ji25, hji25⟩ : ∃ j_ : Int, (mn (ji24) 16711680) = j_ := ⟨_, rfl⟩
        replace H : (if (wrap64 ((wrap64 (Int.tdiv (wrap64 (255 * (wrap64 (65536 * a2_1)))) 2)) + (wrap64 ((wrap64 (((2 * (ji25)) - 16711680) * a1)) * a2_0)))) < 0 then (some (0, 0)) else (if (wrap64 (65536 * a2_1)) = 0 then (none) else (some ((mn (wrap64 (Int.tdiv (wrap64 ((wrap64 (Int.tdiv (wrap64 (255 * (wrap64 (65536 * a2_1)))) 2)) + (wrap64 ((wrap64 (((2 * (ji25)) - 16711680) * a1)) * a2_0)))) (wrap64 (65536 * a2_1)))) 255) % 256, 0)))) = some (r1, r2) := by first | (rw [hji25] at H; exact H) | (simp only [hji25] at H ⊢; exact H)
        have hji25_ : (if 16711680 < (ji24) then 16711680 else (ji24)) = ji25 := hji25
        by_cases c26 : (wrap64 ((wrap64 (Int.tdiv (wrap64 (255 * (wrap64 (65536 * a2_1)))) 2)) + (wrap64 ((wrap64 (((2 * (ji25)) - 16711680) * a1)) * a2_0)))) < 0
        · rw [if_pos c26] at H
          have c26b0 : decide ((wrap64 ((wrap64 (Int.tdiv (wrap64 (255 * (wrap64 (65536 * a2_1)))) 2)) + (wrap64 ((wrap64 (((2 * (ji25)) - 16711680) * a1)) * a2_0)))) < 0) = true := decide_eq_true c26
          clear c26
          simp only [Option.some.injEq, Prod.mk.injEq] at H
          obtain ⟨rfl, rfl⟩ := H
          have hcz27_0 : wc.cell? ⟨gb251, 0, none⟩ = some (.int .i64 a2_0) := (blk_cell BK251.out 0).trans rfl
          have hcz27_1 : wc.cell? ⟨gb251, 1, none⟩ = some (.int .i64 a2_1) := (blk_cell BK251.out 1).trans rfl
          have hfz27_0 := blk_frozen BK251.out 0
          have hfz27_1 := blk_frozen BK251.out 1
          go_wp2
          go_ret2
          exact ⟨by first | rfl | (simp [errW_none, errW_some] <;> rfl) | (simp only [← hji24, ← hji25]; first | rfl | (simp [errW_none, errW_some] <;> rfl)) | (simp [*, errW_none, errW_some] <;> rfl), by repeat (first | (with_reducible first | exact HB.out | apply below_alloc | apply pw_below_drewN | apply below_drew1 | refine below_set ?_ GE251.out) | exact HB.out)⟩
        · rw [if_neg c26] at H
          have c26b0 : decide ((wrap64 ((wrap64 (Int.tdiv (wrap64 (255 * (wrap64 (65536 * a2_1)))) 2)) + (wrap64 ((wrap64 (((2 * (ji25)) - 16711680) * a1)) * a2_0)))) < 0) = false := decide_eq_false c26
          clear c26
          by_cases c28 : (wrap64 (65536 * a2_1)) = 0
          · rw [if_pos c28] at H
            exact absurd H (by simp)
          · rw [if_neg c28] at H
            have c28b0 : ((wrap64 (65536 * a2_1)) == 0) = false := beq_eq_false_iff_ne.mpr c28
            have c28b1 : ((wrap64 (65536 * a2_1)) != 0) = true := bne_iff_ne.mpr c28
            obtain ⟨ji29, hji29⟩ : ∃ j_ : Int, (mn (wrap64 (Int.tdiv (wrap64 ((wrap64 (Int.tdiv (wrap64 (255 * (wrap64 (65536 * a2_1)))) 2)) + (wrap64 ((wrap64 (((2 * (ji25)) - 16711680) * a1)) * a2_0)))) (wrap64 (65536 * a2_1)))) 255) = j_ := ⟨_, rfl⟩
            replace H : (some ((ji29) % 256, 0)) = some (r1, r2) := by first | (rw [hji29] at H; exact H) | (simp only [hji29] at H ⊢; exact H)
            have hji29_ : (if 255 < (wrap64 (Int.tdiv (wrap64 ((wrap64 (Int.tdiv (wrap64 (255 * (wrap64 (65536 * a2_1)))) 2)) + (wrap64 ((wrap64 (((2 * (ji25)) - 16711680) * a1)) * a2_0)))) (wrap64 (65536 * a2_1)))) then 255 else (wrap64 (Int.tdiv (wrap64 ((wrap64 (Int.tdiv (wrap64 (255 * (wrap64 (65536 * a2_1)))) 2)) + (wrap64 ((wrap64 (((2 * (ji25)) - 16711680) * a1)) * a2_0)))) (wrap64 (65536 * a2_1))))) = ji29 := hji29
            simp only [Option.some.injEq, Prod.mk.injEq] at H
            obtain ⟨rfl, rfl⟩ := H
            have hcz30_0 : wc.cell? ⟨gb251, 0, none⟩ = some (.int .i64 a2_0) := (blk_cell BK251.out 0).trans rfl
            have hcz30_1 : wc.cell? ⟨gb251, 1, none⟩ = some (.int .i64 a2_1) := (blk_cell BK251.out 1).trans rfl
            have hfz30_0 := blk_frozen BK251.out 0
            have hfz30_1 := blk_frozen BK251.out 1
            go_wp2
            go_ret2
            exact ⟨by first | rfl | (simp [errW_none, errW_some] <;> rfl) | (simp only [← hji24, ← hji25, ← hji29]; first | rfl | (simp [errW_none, errW_some] <;> rfl)) | (simp [*, errW_none, errW_some] <;> rfl), by repeat (first | (with_reducible first | exact HB.out | apply below_alloc | apply pw_below_drewN | apply below_drew1 | refine below_set ?_ GE251.out) | exact HB.out)⟩

end Go.Proofs.YtjcgmjhcaaaieaaDoor.Pr
