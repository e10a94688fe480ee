-- printed by a program of this session's (wip/mp.sh), out of the translation; the texts of its folder 'given' are typed by hand
import Derived.Test.YtjcgmjhcaaaieaaDoorPr0
import Derived.Test.YtjcgmjhcaaaieaaDoorPr30
namespace Go.Proofs.YtjcgmjhcaaaieaaDoor.Pr
open Go.RowKit Go.Proofs.YtjcgmjhcaaaieaaDoorW.PrintWords Go.Proofs.YtjcgmjhcaaaieaaDoorW.PrintLast Go.Proofs.YtjcgmjhcaaaieaaDoorW.PrintMore
attribute [local go_sem] max2_int min2_int max_two min_two max_three min_three max_four min_four   -- for this text's walks alone
attribute [local go_sem high] eqA32
set_option linter.unusedVariables false
set_option linter.unusedSimpArgs false

/-! ### pochoirref32_Cover: function 13 -/
def pochoirref32_Cover.f (k : Nat) (a0 : Int) (a1 : Int) (a2_0 : Int) (a2_1 : Int) : Option (Int × Int) := if a1 < 1 then (some (0, 1)) else (if a1 > 16 then (some (0, 1)) else ((pochoirref03_May.f k a2_0 a2_1).bind fun t259 => (if t259 = true then (if a2_0 ≤ 0 then (some (0, 1)) else (if a2_0 > 1073741824 then (some (0, 1)) else (if a2_1 > 1073741824 then (some (0, 1)) else ((pochoirref03_Floor.f (wrap64 ((wrap64 (8355840 * a2_1)) + (wrap64 ((wrap64 (((2 * (mn (mx a0 0) 16711680)) - 16711680) * a1)) * a2_0)))) (wrap64 (65536 * a2_1))).bind fun t260 => (some (mn (mx t260 0) 255, 0)))))) else (some (0, 1)))))
theorem pochoirref32_Cover.mono : ∀ a0 a1 a2 a3 k, LeO (pochoirref32_Cover.f k a0 a1 a2 a3) (pochoirref32_Cover.f (k + 1) a0 a1 a2 a3) := by
  intro a0 a1 a2 a3 k
  unfold pochoirref32_Cover.f
  repeat' first
      | (with_reducible exact pochoirref03_May.mono _ _ _)
      | (with_reducible exact LeO.refl _)
      | (with_reducible exact LeO.none _)
      | (with_reducible refine LeO.ite ?_ ?_)
      | (with_reducible refine LeO.bind ?_ (fun _ => ?_))
      | exact pochoirref03_May.mono _ _ _
      | exact LeO.none _
      | refine LeO.ite ?_ ?_
      | refine LeO.bind ?_ (fun _ => ?_)
set_option maxHeartbeats 8000000 in
set_option maxRecDepth 100000 in
theorem pochoirref32_Cover.calls (k : Nat) (a0 : Int) (a1 : Int) (a2_0 : Int) (a2_1 : Int) (r1 : Int) (r2 : Int) (w : World) (h : pochoirref32_Cover.f k a0 a1 a2_0 a2_1 = some (r1, r2)) :
    Calls Tryd.prog 13 #[.int .i64 a0, .int .i64 a1, .agg #[.int .i64 a2_0, .int .i64 a2_1]] w fun e w' => e = .returned (.tuple #[.int .i64 r1, .int .i64 r2]) ∧ Below w.heap.size w w' := by
  have hu42 := Tryd.underlying42
  have HB := Aside0.mk (Below.refl w.heap.size w)
  have H : (if a1 < 1 then (some (0, 1)) else (if a1 > 16 then (some (0, 1)) else ((pochoirref03_May.f k a2_0 a2_1).bind fun t259 => (if t259 = true then (if a2_0 ≤ 0 then (some (0, 1)) else (if a2_0 > 1073741824 then (some (0, 1)) else (if a2_1 > 1073741824 then (some (0, 1)) else ((pochoirref03_Floor.f (wrap64 ((wrap64 (8355840 * a2_1)) + (wrap64 ((wrap64 (((2 * (mn (mx a0 0) 16711680)) - 16711680) * a1)) * a2_0)))) (wrap64 (65536 * a2_1))).bind fun t260 => (some (mn (mx t260 0) 255, 0)))))) else (some (0, 1)))))) = some (r1, r2) := h
  clear h
  by_cases c4 : a1 < 1
  · rw [if_pos c4] at H
    have c4b0 : decide (a1 < 1) = true := decide_eq_true c4
    clear c4
    simp only [Option.some.injEq, Prod.mk.injEq] at H
    obtain ⟨rfl, rfl⟩ := H
    go_enter Tryd.func13, Tryd.ntmps13
    go_wp2_with (first | ((with_reducible refine gate_dst (N := 5) rfl ?_); refine box_event ?hg (N := 5) ?hd (cs := #[.int .i64 a2_0, .int .i64 a2_1]) (t := 42) ?hr ?_; (case hd => rfl); (case hg => rfl); (case hr => first | (go_simp; done) | (go_simp; rfl)); intro gb258 hg w5 hbox hb; have n0_ := Aside0.mk (below_step (by repeat (first | (with_reducible first | exact HB.out | apply below_alloc | apply pw_below_drewN | apply below_drew1) | exact HB.out)) hb); have n1_ := Aside0.mk (hbox); have n2_ := Aside0.mk ((by rw [hg]; exact (below_size (by repeat (first | (with_reducible first | exact HB.out | apply below_alloc | apply pw_below_drewN | apply below_drew1) | exact HB.out))) : w.heap.size ≤ gb258)); have n3_ := Aside0.mk ((by rw [hg]; exact (below_size (by repeat (first | (with_reducible first | exact HB.out | apply below_alloc | apply pw_below_drewN | apply below_drew1) | exact HB.out))) : w.heap.size ≤ gb258)); clear HB; have HB := n0_; have BK258 := n1_; have GW258 := n2_; have GE258 := n3_; clear n0_ n1_ n2_ n3_; clear hb hbox hg))
    go_ret2
    exact ⟨by first | rfl | (simp [errW_none, errW_some] <;> rfl) | (simp [*, errW_none, errW_some] <;> rfl), by repeat (first | (with_reducible first | exact HB.out | apply below_alloc | apply pw_below_drewN | apply below_drew1 | refine below_set ?_ GE258.out) | exact HB.out)⟩
  · rw [if_neg c4] at H
    have c4b0 : decide (a1 < 1) = false := decide_eq_false c4
    clear c4
    by_cases c6 : a1 > 16
    · rw [if_pos c6] at H
      have c6b0 : decide (16 < a1) = true := decide_eq_true c6
      clear c6
      simp only [Option.some.injEq, Prod.mk.injEq] at H
      obtain ⟨rfl, rfl⟩ := H
      go_enter Tryd.func13, Tryd.ntmps13
      go_wp2_with (first | ((with_reducible refine gate_dst (N := 5) rfl ?_); refine box_event ?hg (N := 5) ?hd (cs := #[.int .i64 a2_0, .int .i64 a2_1]) (t := 42) ?hr ?_; (case hd => rfl); (case hg => rfl); (case hr => first | (go_simp; done) | (go_simp; rfl)); intro gb258 hg w7 hbox hb; have n0_ := Aside0.mk (below_step (by repeat (first | (with_reducible first | exact HB.out | apply below_alloc | apply pw_below_drewN | apply below_drew1) | exact HB.out)) hb); have n1_ := Aside0.mk (hbox); have n2_ := Aside0.mk ((by rw [hg]; exact (below_size (by repeat (first | (with_reducible first | exact HB.out | apply below_alloc | apply pw_below_drewN | apply below_drew1) | exact HB.out))) : w.heap.size ≤ gb258)); have n3_ := Aside0.mk ((by rw [hg]; exact (below_size (by repeat (first | (with_reducible first | exact HB.out | apply below_alloc | apply pw_below_drewN | apply below_drew1) | exact HB.out))) : w.heap.size ≤ gb258)); clear HB; have HB := n0_; have BK258 := n1_; have GW258 := n2_; have GE258 := n3_; clear n0_ n1_ n2_ n3_; clear hb hbox hg))
      go_ret2
      exact ⟨by first | rfl | (simp [errW_none, errW_some] <;> rfl) | (simp [*, errW_none, errW_some] <;> rfl), by repeat (first | (with_reducible first | exact HB.out | apply below_alloc | apply pw_below_drewN | apply below_drew1 | refine below_set ?_ GE258.out) | exact HB.out)⟩
    · rw [if_neg c6] at H
      have c6b0 : decide (16 < a1) = false := decide_eq_false c6
      clear c6
      replace H := Option.bind_eq_some_iff.mp H
      obtain ⟨t259, A80, H⟩ := H
      replace H : (if t259 = true then (if a2_0 ≤ 0 then (some (0, 1)) else (if a2_0 > 1073741824 then (some (0, 1)) else (if a2_1 > 1073741824 then (some (0, 1)) else ((pochoirref03_Floor.f (wrap64 ((wrap64 (8355840 * a2_1)) + (wrap64 ((wrap64 (((2 * (mn (mx a0 0) 16711680)) - 16711680) * a1)) * a2_0)))) (wrap64 (65536 * a2_1))).bind fun t260 => (some (mn (mx t260 0) 255, 0)))))) else (some (0, 1))) = some (r1, r2) := H
      have A8 := Aside0.mk A80
      clear A80
      by_cases c9 : t259 = true
      · subst c9
        have H1 : (if a2_0 ≤ 0 then (some (0, 1)) else (if a2_0 > 1073741824 then (some (0, 1)) else (if a2_1 > 1073741824 then (some (0, 1)) else ((pochoirref03_Floor.f (wrap64 ((wrap64 (8355840 * a2_1)) + (wrap64 ((wrap64 (((2 * (mn (mx a0 0) 16711680)) - 16711680) * a1)) * a2_0)))) (wrap64 (65536 * a2_1))).bind fun t260 => (some (mn (mx t260 0) 255, 0)))))) = some (r1, r2) := by rw [if_pos rfl] at H; exact H
        clear H
        have H := H1
        clear H1
        by_cases c10 : a2_0 ≤ 0
        · rw [if_pos c10] at H
          have c10b0 : decide (a2_0 ≤ 0) = true := decide_eq_true c10
          clear c10
          simp only [Option.some.injEq, Prod.mk.injEq] at H
          obtain ⟨rfl, rfl⟩ := H
          go_enter Tryd.func13, Tryd.ntmps13
          go_wp2_with (first | ((with_reducible refine gate_dst (N := 5) rfl ?_); refine box_event ?hg (N := 5) ?hd (cs := #[.int .i64 a2_0, .int .i64 a2_1]) (t := 42) ?hr ?_; (case hd => rfl); (case hg => rfl); (case hr => first | (go_simp; done) | (go_simp; rfl)); intro gb258 hg w11 hbox hb; have n0_ := Aside0.mk (below_step (by repeat (first | (with_reducible first | exact HB.out | apply below_alloc | apply pw_below_drewN | apply below_drew1) | exact HB.out)) hb); have n1_ := Aside0.mk (hbox); have n2_ := Aside0.mk ((by rw [hg]; exact (below_size (by repeat (first | (with_reducible first | exact HB.out | apply below_alloc | apply pw_below_drewN | apply below_drew1) | exact HB.out))) : w.heap.size ≤ gb258)); have n3_ := Aside0.mk ((by rw [hg]; exact (below_size (by repeat (first | (with_reducible first | exact HB.out | apply below_alloc | apply pw_below_drewN | apply below_drew1) | exact HB.out))) : w.heap.size ≤ gb258)); clear HB; have HB := n0_; have BK258 := n1_; have GW258 := n2_; have GE258 := n3_; clear n0_ n1_ n2_ n3_; clear hb hbox hg; have hcz12_0 : w11.cell? ⟨gb258, 0, none⟩ = some (.int .i64 a2_0) := (blk_cell BK258.out 0).trans rfl; have hcz12_1 : w11.cell? ⟨gb258, 1, none⟩ = some (.int .i64 a2_1) := (blk_cell BK258.out 1).trans rfl; have hfz12_0 := blk_frozen BK258.out 0; have hfz12_1 := blk_frozen BK258.out 1) | (go_at_call 23; (with_reducible refine (pochoirref03_May.calls k a2_0 a2_1 true _ A8.out).mono ?_); rintro e w13 ⟨rfl, hb⟩; have n0_ := Aside0.mk (blk_below (g := gb258) (o := .cells #[.int .i64 a2_0, .int .i64 a2_1] 42 (0, 0)) (by (with_reducible repeat (first | refine blk_drewN ?_ _ | refine blk_drew ?_ | refine blk_alloc ?_ _)); exact BK258.out) hb); have n1_ := Aside0.mk (below_step (by repeat (first | (with_reducible first | exact HB.out | apply below_alloc | apply pw_below_drewN | apply below_drew1 | refine below_set ?_ GE258.out) | exact HB.out)) hb); clear BK258; clear HB; have BK258 := n0_; have HB := n1_; clear n0_ n1_; (try clear hb); (try clear hb2); (try clear hk); (try clear hi); have hcz14_0 : w13.cell? ⟨gb258, 0, none⟩ = some (.int .i64 a2_0) := (blk_cell BK258.out 0).trans rfl; have hcz14_1 : w13.cell? ⟨gb258, 1, none⟩ = some (.int .i64 a2_1) := (blk_cell BK258.out 1).trans rfl; have hfz14_0 := blk_frozen BK258.out 0; have hfz14_1 := blk_frozen BK258.out 1))
          go_ret2
          exact ⟨by first | rfl | (simp [errW_none, errW_some] <;> rfl) | (simp [*, errW_none, errW_some] <;> rfl), by repeat (first | (with_reducible first | exact HB.out | apply below_alloc | apply pw_below_drewN | apply below_drew1 | refine below_set ?_ GE258.out) | exact HB.out)⟩
        · rw [if_neg c10] at H
          have c10b0 : decide (a2_0 ≤ 0) = false := decide_eq_false c10
          clear c10
          by_cases c15 : a2_0 > 1073741824
          · rw [if_pos c15] at H
            have c15b0 : decide (1073741824 < a2_0) = true := decide_eq_true c15
            clear c15
            simp only [Option.some.injEq, Prod.mk.injEq] at H
            obtain ⟨rfl, rfl⟩ := H
            go_enter Tryd.func13, Tryd.ntmps13
            go_wp2_with (first | ((with_reducible refine gate_dst (N := 5) rfl ?_); refine box_event ?hg (N := 5) ?hd (cs := #[.int .i64 a2_0, .int .i64 a2_1]) (t := 42) ?hr ?_; (case hd => rfl); (case hg => rfl); (case hr => first | (go_simp; done) | (go_simp; rfl)); intro gb258 hg w16 hbox hb; have n0_ := Aside0.mk (below_step (by repeat (first | (with_reducible first | exact HB.out | apply below_alloc | apply pw_below_drewN | apply below_drew1) | exact HB.out)) hb); have n1_ := Aside0.mk (hbox); have n2_ := Aside0.mk ((by rw [hg]; exact (below_size (by repeat (first | (with_reducible first | exact HB.out | apply below_alloc | apply pw_below_drewN | apply below_drew1) | exact HB.out))) : w.heap.size ≤ gb258)); have n3_ := Aside0.mk ((by rw [hg]; exact (below_size (by repeat (first | (with_reducible first | exact HB.out | apply below_alloc | apply pw_below_drewN | apply below_drew1) | exact HB.out))) : w.heap.size ≤ gb258)); clear HB; have HB := n0_; have BK258 := n1_; have GW258 := n2_; have GE258 := n3_; clear n0_ n1_ n2_ n3_; clear hb hbox hg; have hcz17_0 : w16.cell? ⟨gb258, 0, none⟩ = some (.int .i64 a2_0) := (blk_cell BK258.out 0).trans rfl; have hcz17_1 : w16.cell? ⟨gb258, 1, none⟩ = some (.int .i64 a2_1) := (blk_cell BK258.out 1).trans rfl; have hfz17_0 := blk_frozen BK258.out 0; have hfz17_1 := blk_frozen BK258.out 1) | (go_at_call 23; (with_reducible refine (pochoirref03_May.calls k a2_0 a2_1 true _ A8.out).mono ?_); rintro e w18 ⟨rfl, hb⟩; have n0_ := Aside0.mk (blk_below (g := gb258) (o := .cells #[.int .i64 a2_0, .int .i64 a2_1] 42 (0, 0)) (by (with_reducible repeat (first | refine blk_drewN ?_ _ | refine blk_drew ?_ | refine blk_alloc ?_ _)); exact BK258.out) hb); have n1_ := Aside0.mk (below_step (by repeat (first | (with_reducible first | exact HB.out | apply below_alloc | apply pw_below_drewN | apply below_drew1 | refine below_set ?_ GE258.out) | exact HB.out)) hb); clear BK258; clear HB; have BK258 := n0_; have HB := n1_; clear n0_ n1_; (try clear hb); (try clear hb2); (try clear hk); (try clear hi); have hcz19_0 : w18.cell? ⟨gb258, 0, none⟩ = some (.int .i64 a2_0) := (blk_cell BK258.out 0).trans rfl; have hcz19_1 : w18.cell? ⟨gb258, 1, none⟩ = some (.int .i64 a2_1) := (blk_cell BK258.out 1).trans rfl; have hfz19_0 := blk_frozen BK258.out 0; have hfz19_1 := blk_frozen BK258.out 1))
            go_ret2
            exact ⟨by first | rfl | (simp [errW_none, errW_some] <;> rfl) | (simp [*, errW_none, errW_some] <;> rfl), by repeat (first | (with_reducible first | exact HB.out | apply below_alloc | apply pw_below_drewN | apply below_drew1 | refine below_set ?_ GE258.out) | exact HB.out)⟩
          · rw [if_neg c15] at H
            have c15b0 : decide (1073741824 < a2_0) = false := decide_eq_false c15
            clear c15
            by_cases c20 : a2_1 > 1073741824
            · rw [if_pos c20] at H
              have c20b0 : decide (1073741824 < a2_1) = true := decide_eq_true c20
              clear c20
              simp only [Option.some.injEq, Prod.mk.injEq] at H
              obtain ⟨rfl, rfl⟩ := H
              go_enter Tryd.func13, Tryd.ntmps13
              go_wp2_with (first | ((with_reducible refine gate_dst (N := 5) rfl ?_); refine box_event ?hg (N := 5) ?hd (cs := #[.int .i64 a2_0, .int .i64 a2_1]) (t := 42) ?hr ?_; (case hd => rfl); (case hg => rfl); (case hr => first | (go_simp; done) | (go_simp; rfl)); intro gb258 hg w21 hbox hb; have n0_ := Aside0.mk (below_step (by repeat (first | (with_reducible first | exact HB.out | apply below_alloc | apply pw_below_drewN | apply below_drew1) | exact HB.out)) hb); have n1_ := Aside0.mk (hbox); have n2_ := Aside0.mk ((by rw [hg]; exact (below_size (by repeat (first | (with_reducible first | exact HB.out | apply below_alloc | apply pw_below_drewN | apply below_drew1) | exact HB.out))) : w.heap.size ≤ gb258)); have n3_ := Aside0.mk ((by rw [hg]; exact (below_size (by repeat (first | (with_reducible first | exact HB.out | apply below_alloc | apply pw_below_drewN | apply below_drew1) | exact HB.out))) : w.heap.size ≤ gb258)); clear HB; have HB := n0_; have BK258 := n1_; have GW258 := n2_; have GE258 := n3_; clear n0_ n1_ n2_ n3_; clear hb hbox hg; have hcz22_0 : w21.cell? ⟨gb258, 0, none⟩ = some (.int .i64 a2_0) := (blk_cell BK258.out 0).trans rfl; have hcz22_1 : w21.cell? ⟨gb258, 1, none⟩ = some (.int .i64 a2_1) := (blk_cell BK258.out 1).trans rfl; have hfz22_0 := blk_frozen BK258.out 0; have hfz22_1 := blk_frozen BK258.out 1) | (go_at_call 23; (with_reducible refine (pochoirref03_May.calls k a2_0 a2_1 true _ A8.out).mono ?_); rintro e w23 ⟨rfl, hb⟩; have n0_ := Aside0.mk (blk_below (g := gb258) (o := .cells #[.int .i64 a2_0, .int .i64 a2_1] 42 (0, 0)) (by (with_reducible repeat (first | refine blk_drewN ?_ _ | refine blk_drew ?_ | refine blk_alloc ?_ _)); exact BK258.out) hb); have n1_ := Aside0.mk (below_step (by repeat (first | (with_reducible first | exact HB.out | apply below_alloc | apply pw_below_drewN | apply below_drew1 | refine below_set ?_ GE258.out) | exact HB.out)) hb); clear BK258; clear HB; have BK258 := n0_; have HB := n1_; clear n0_ n1_; (try clear hb); (try clear hb2); (try clear hk); (try clear hi); have hcz24_0 : w23.cell? ⟨gb258, 0, none⟩ = some (.int .i64 a2_0) := (blk_cell BK258.out 0).trans rfl; have hcz24_1 : w23.cell? ⟨gb258, 1, none⟩ = some (.int .i64 a2_1) := (blk_cell BK258.out 1).trans rfl; have hfz24_0 := blk_frozen BK258.out 0; have hfz24_1 := blk_frozen BK258.out 1))
              go_ret2
              exact ⟨by first | rfl | (simp [errW_none, errW_some] <;> rfl) | (simp [*, errW_none, errW_some] <;> rfl), by repeat (first | (with_reducible first | exact HB.out | apply below_alloc | apply pw_below_drewN | apply below_drew1 | refine below_set ?_ GE258.out) | exact HB.out)⟩
            · rw [if_neg c20] at H
              have c20b0 : decide (1073741824 < a2_1) = false := decide_eq_false c20
              clear c20
              obtain ⟨ji25, hji25⟩ : ∃ j_ : Int, (mx a0 0) = j_ := ⟨_, rfl⟩
              replace H : ((pochoirref03_Floor.f (wrap64 ((wrap64 (8355840 * a2_1)) + (wrap64 ((wrap64 (((2 * (mn (ji25) 16711680)) - 16711680) * a1)) * a2_0)))) (wrap64 (65536 * a2_1))).bind fun t260 => (some (mn (mx t260 0) 255, 0))) = some (r1, r2) := by first | (rw [hji25] at H; exact H) | (simp only [hji25] at H ⊢; exact H)
              (try rw [hji25] at A8)
              (try (have hji25l : 0 ≤ ji25 := by (rw [← hji25]; unfold mx; (repeat' split) <;> omega)))
              (try (have hji25m : 0 ≤ ji25 := by omega))
              have hji25_ : (if a0 < 0 then 0 else a0) = ji25 := hji25
              obtain ⟨ji26, hji26⟩ : ∃ j_ : Int, (mn (ji25) 16711680) = j_ := ⟨_, rfl⟩
              replace H : ((pochoirref03_Floor.f (wrap64 ((wrap64 (8355840 * a2_1)) + (wrap64 ((wrap64 (((2 * (ji26)) - 16711680) * a1)) * a2_0)))) (wrap64 (65536 * a2_1))).bind fun t260 => (some (mn (mx t260 0) 255, 0))) = some (r1, r2) := by first | (rw [hji26] at H; exact H) | (simp only [hji26] at H ⊢; exact H)
              (try rw [hji26] at A8)
              have hji26_ : (if 16711680 < (ji25) then 16711680 else (ji25)) = ji26 := hji26
              replace H := Option.bind_eq_some_iff.mp H
              obtain ⟨t260, A270, H⟩ := H
              replace H : (some (mn (mx t260 0) 255, 0)) = some (r1, r2) := H
              have A27 := Aside0.mk A270
              clear A270
              obtain ⟨ji28, hji28⟩ : ∃ j_ : Int, (mx t260 0) = j_ := ⟨_, rfl⟩
              replace H : (some (mn (ji28) 255, 0)) = some (r1, r2) := by first | (rw [hji28] at H; exact H) | (simp only [hji28] at H ⊢; exact H)
              (try rw [hji28] at A8)
              (try rw [hji28] at A27)
              (try (have hji28l : 0 ≤ ji28 := by (rw [← hji28]; unfold mx; (repeat' split) <;> omega)))
              (try (have hji28m : 0 ≤ ji28 := by omega))
              have hji28_ : (if t260 < 0 then 0 else t260) = ji28 := hji28
              obtain ⟨ji29, hji29⟩ : ∃ j_ : Int, (mn (ji28) 255) = j_ := ⟨_, rfl⟩
              replace H : (some (ji29, 0)) = some (r1, r2) := by first | (rw [hji29] at H; exact H) | (simp only [hji29] at H ⊢; exact H)
              (try rw [hji29] at A8)
              (try rw [hji29] at A27)
              have hji29_ : (if 255 < (ji28) then 255 else (ji28)) = ji29 := hji29
              simp only [Option.some.injEq, Prod.mk.injEq] at H
              obtain ⟨rfl, rfl⟩ := H
              go_enter Tryd.func13, Tryd.ntmps13
              go_wp2_with (first | ((with_reducible refine gate_dst (N := 5) rfl ?_); refine box_event ?hg (N := 5) ?hd (cs := #[.int .i64 a2_0, .int .i64 a2_1]) (t := 42) ?hr ?_; (case hd => rfl); (case hg => rfl); (case hr => first | (go_simp; done) | (go_simp; rfl)); intro gb258 hg w30 hbox hb; have n0_ := Aside0.mk (below_step (by repeat (first | (with_reducible first | exact HB.out | apply below_alloc | apply pw_below_drewN | apply below_drew1) | exact HB.out)) hb); have n1_ := Aside0.mk (hbox); have n2_ := Aside0.mk ((by rw [hg]; exact (below_size (by repeat (first | (with_reducible first | exact HB.out | apply below_alloc | apply pw_below_drewN | apply below_drew1) | exact HB.out))) : w.heap.size ≤ gb258)); have n3_ := Aside0.mk ((by rw [hg]; exact (below_size (by repeat (first | (with_reducible first | exact HB.out | apply below_alloc | apply pw_below_drewN | apply below_drew1) | exact HB.out))) : w.heap.size ≤ gb258)); clear HB; have HB := n0_; have BK258 := n1_; have GW258 := n2_; have GE258 := n3_; clear n0_ n1_ n2_ n3_; clear hb hbox hg; have hcz31_0 : w30.cell? ⟨gb258, 0, none⟩ = some (.int .i64 a2_0) := (blk_cell BK258.out 0).trans rfl; have hcz31_1 : w30.cell? ⟨gb258, 1, none⟩ = some (.int .i64 a2_1) := (blk_cell BK258.out 1).trans rfl; have hfz31_0 := blk_frozen BK258.out 0; have hfz31_1 := blk_frozen BK258.out 1) | (go_at_call 23; (with_reducible refine (pochoirref03_May.calls k a2_0 a2_1 true _ A8.out).mono ?_); rintro e w32 ⟨rfl, hb⟩; have n0_ := Aside0.mk (blk_below (g := gb258) (o := .cells #[.int .i64 a2_0, .int .i64 a2_1] 42 (0, 0)) (by (with_reducible repeat (first | refine blk_drewN ?_ _ | refine blk_drew ?_ | refine blk_alloc ?_ _)); exact BK258.out) hb); have n1_ := Aside0.mk (below_step (by repeat (first | (with_reducible first | exact HB.out | apply below_alloc | apply pw_below_drewN | apply below_drew1 | refine below_set ?_ GE258.out) | exact HB.out)) hb); clear BK258; clear HB; have BK258 := n0_; have HB := n1_; clear n0_ n1_; (try clear hb); (try clear hb2); (try clear hk); (try clear hi); have hcz33_0 : w32.cell? ⟨gb258, 0, none⟩ = some (.int .i64 a2_0) := (blk_cell BK258.out 0).trans rfl; have hcz33_1 : w32.cell? ⟨gb258, 1, none⟩ = some (.int .i64 a2_1) := (blk_cell BK258.out 1).trans rfl; have hfz33_0 := blk_frozen BK258.out 0; have hfz33_1 := blk_frozen BK258.out 1) | ((with_reducible refine gate_callee (f := 24) rfl ?_); refine goesL_ (some 57) rfl rfl Tryd.func24 (by kernel_rfl) rfl #[.agg #[.int .i64 (wrap64 ((wrap64 (8355840 * a2_1)) + (wrap64 ((wrap64 (((2 * (ji26)) - 16711680) * a1)) * a2_0)))), .int .i64 (wrap64 (65536 * a2_1))]] rfl (by (try simp only [List.map_toArray, List.map_cons, List.map_nil]); first | done | (simp only [hji26]; rfl) | rfl | (simp only [List.length_drop, List.length_take]; rfl)) ?_; (with_reducible refine (pochoirref03_Floor.calls (wrap64 ((wrap64 (8355840 * a2_1)) + (wrap64 ((wrap64 (((2 * (ji26)) - 16711680) * a1)) * a2_0)))) (wrap64 (65536 * a2_1)) t260 _ A27.out).mono ?_); rintro e w34 ⟨rfl, hb⟩; refine ⟨_, rfl, ?_⟩; have n0_ := Aside0.mk (blk_below (g := gb258) (o := .cells #[.int .i64 a2_0, .int .i64 a2_1] 42 (0, 0)) (by (with_reducible repeat (first | refine blk_drewN ?_ _ | refine blk_drew ?_ | refine blk_alloc ?_ _)); exact BK258.out) hb); have n1_ := Aside0.mk (below_step (by repeat (first | (with_reducible first | exact HB.out | apply below_alloc | apply pw_below_drewN | apply below_drew1 | refine below_set ?_ GE258.out) | exact HB.out)) hb); clear BK258; clear HB; have BK258 := n0_; have HB := n1_; clear n0_ n1_; (try clear hb); (try clear hb2); (try clear hk); (try clear hi)))
              go_ret2
              exact ⟨by first | rfl | (simp [errW_none, errW_some] <;> rfl) | (simp only [← hji25, ← hji26, ← hji28, ← hji29]; first | rfl | (simp [errW_none, errW_some] <;> rfl)) | (simp [*, errW_none, errW_some] <;> rfl), by repeat (first | (with_reducible first | exact HB.out | apply below_alloc | apply pw_below_drewN | apply below_drew1 | refine below_set ?_ GE258.out) | exact HB.out)⟩
      · replace c9 := Bool.eq_false_iff.mpr c9
        subst c9
        have H1 : (some (0, 1)) = some (r1, r2) := by rw [if_neg (show ¬ (false = true) by decide)] at H; exact H
        clear H
        have H := H1
        clear H1
        simp only [Option.some.injEq, Prod.mk.injEq] at H
        obtain ⟨rfl, rfl⟩ := H
        go_enter Tryd.func13, Tryd.ntmps13
        go_wp2_with (first | ((with_reducible refine gate_dst (N := 5) rfl ?_); refine box_event ?hg (N := 5) ?hd (cs := #[.int .i64 a2_0, .int .i64 a2_1]) (t := 42) ?hr ?_; (case hd => rfl); (case hg => rfl); (case hr => first | (go_simp; done) | (go_simp; rfl)); intro gb258 hg w35 hbox hb; have n0_ := Aside0.mk (below_step (by repeat (first | (with_reducible first | exact HB.out | apply below_alloc | apply pw_below_drewN | apply below_drew1) | exact HB.out)) hb); have n1_ := Aside0.mk (hbox); have n2_ := Aside0.mk ((by rw [hg]; exact (below_size (by repeat (first | (with_reducible first | exact HB.out | apply below_alloc | apply pw_below_drewN | apply below_drew1) | exact HB.out))) : w.heap.size ≤ gb258)); have n3_ := Aside0.mk ((by rw [hg]; exact (below_size (by repeat (first | (with_reducible first | exact HB.out | apply below_alloc | apply pw_below_drewN | apply below_drew1) | exact HB.out))) : w.heap.size ≤ gb258)); clear HB; have HB := n0_; have BK258 := n1_; have GW258 := n2_; have GE258 := n3_; clear n0_ n1_ n2_ n3_; clear hb hbox hg; have hcz36_0 : w35.cell? ⟨gb258, 0, none⟩ = some (.int .i64 a2_0) := (blk_cell BK258.out 0).trans rfl; have hcz36_1 : w35.cell? ⟨gb258, 1, none⟩ = some (.int .i64 a2_1) := (blk_cell BK258.out 1).trans rfl; have hfz36_0 := blk_frozen BK258.out 0; have hfz36_1 := blk_frozen BK258.out 1) | (go_at_call 23; (with_reducible refine (pochoirref03_May.calls k a2_0 a2_1 false _ A8.out).mono ?_); rintro e w37 ⟨rfl, hb⟩; have n0_ := Aside0.mk (blk_below (g := gb258) (o := .cells #[.int .i64 a2_0, .int .i64 a2_1] 42 (0, 0)) (by (with_reducible repeat (first | refine blk_drewN ?_ _ | refine blk_drew ?_ | refine blk_alloc ?_ _)); exact BK258.out) hb); have n1_ := Aside0.mk (below_step (by repeat (first | (with_reducible first | exact HB.out | apply below_alloc | apply pw_below_drewN | apply below_drew1 | refine below_set ?_ GE258.out) | exact HB.out)) hb); clear BK258; clear HB; have BK258 := n0_; have HB := n1_; clear n0_ n1_; (try clear hb); (try clear hb2); (try clear hk); (try clear hi)))
        go_ret2
        exact ⟨by first | rfl | (simp [errW_none, errW_some] <;> rfl) | (simp [*, errW_none, errW_some] <;> rfl), by repeat (first | (with_reducible first | exact HB.out | apply below_alloc | apply pw_below_drewN | apply below_drew1 | refine below_set ?_ GE258.out) | exact HB.out)⟩

end Go.Proofs.YtjcgmjhcaaaieaaDoor.Pr
