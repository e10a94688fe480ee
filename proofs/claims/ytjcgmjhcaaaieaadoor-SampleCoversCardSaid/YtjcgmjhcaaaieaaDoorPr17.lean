-- printed by a program of this session's (wip/mp.sh), out of the translation; the texts of its folder 'given' are typed by hand
import Derived.Test.YtjcgmjhcaaaieaaDoorPr0
import Derived.Test.YtjcgmjhcaaaieaaDoorPr16
namespace Go.Proofs.YtjcgmjhcaaaieaaDoor.Pr
open Go.RowKit Go.Proofs.YtjcgmjhcaaaieaaDoorW.PrintWords Go.Proofs.YtjcgmjhcaaaieaaDoorW.PrintLast Go.Proofs.YtjcgmjhcaaaieaaDoorW.PrintMore
attribute [local go_sem] max2_int min2_int max_two min_two max_three min_three max_four min_four   -- for this text's walks alone
attribute [local go_sem high] eqA32
set_option linter.unusedVariables false
set_option linter.unusedSimpArgs false

/-! ### ratio_twos: function 42 -/
def ratio_twos.f (a0_0 : Int) (a0_1 : Int) : Option (Int) := if a0_1 = 0 then ((bits_TrailingZeros64.f a0_0).bind fun t184 => (some (wrap64 (64 + t184)))) else ((bits_TrailingZeros64.f a0_1).bind fun t185 => (some t185))
set_option maxHeartbeats 8000000 in
set_option maxRecDepth 100000 in
theorem ratio_twos.calls (a0_0 : Int) (a0_1 : Int) (r : Int) (w : World) (h : ratio_twos.f a0_0 a0_1 = some r) (hTab : HasTab w) :
    Calls Tryd.prog 42 #[.agg #[.int .u64 a0_0, .int .u64 a0_1]] w fun e w' => e = .returned (.int .i64 r) ∧ Below w.heap.size w w' := by
  have hu77 := Tryd.underlying77
  have HB := Aside0.mk (Below.refl w.heap.size w)
  have H : (if a0_1 = 0 then ((bits_TrailingZeros64.f a0_0).bind fun t184 => (some (wrap64 (64 + t184)))) else ((bits_TrailingZeros64.f a0_1).bind fun t185 => (some t185))) = some r := h
  clear h
  by_cases c2 : a0_1 = 0
  · rw [if_pos c2] at H
    have c2b0 : (a0_1 == 0) = true := beq_iff_eq.mpr c2
    have c2b1 : (a0_1 != 0) = false := bne_eq_false_iff_eq.mpr c2
    clear c2
    replace H := Option.bind_eq_some_iff.mp H
    obtain ⟨t184, A30, H⟩ := H
    replace H : (some (wrap64 (64 + t184))) = some r := H
    have A3 := Aside0.mk A30
    clear A30
    obtain rfl := Option.some.inj H
    go_enter Tryd.func42, Tryd.ntmps42
    go_wp2_with (first | ((with_reducible refine gate_dst (N := 1) rfl ?_); refine box_event ?hg (N := 1) ?hd (cs := #[.int .u64 a0_0, .int .u64 a0_1]) (t := 77) ?hr ?_; (case hd => rfl); (case hg => rfl); (case hr => first | (go_simp; done) | (go_simp; rfl)); intro gb183 hg w4 hbox hb; have n0_ := Aside0.mk (below_step (by repeat (first | (with_reducible first | exact HB.out | apply below_alloc | apply pw_below_drewN | apply below_drew1) | exact HB.out)) hb); have n1_ := Aside0.mk (hbox); have n2_ := Aside0.mk ((by rw [hg]; exact (below_size (by repeat (first | (with_reducible first | exact HB.out | apply below_alloc | apply pw_below_drewN | apply below_drew1) | exact HB.out))) : w.heap.size ≤ gb183)); have n3_ := Aside0.mk ((by rw [hg]; exact (below_size (by repeat (first | (with_reducible first | exact HB.out | apply below_alloc | apply pw_below_drewN | apply below_drew1) | exact HB.out))) : w.heap.size ≤ gb183)); clear HB; have HB := n0_; have BK183 := n1_; have GW183 := n2_; have GE183 := n3_; clear n0_ n1_ n2_ n3_; clear hb hbox hg; have hcz5_0 : w4.cell? ⟨gb183, 0, none⟩ = some (.int .u64 a0_0) := (blk_cell BK183.out 0).trans rfl; have hcz5_1 : w4.cell? ⟨gb183, 1, none⟩ = some (.int .u64 a0_1) := (blk_cell BK183.out 1).trans rfl; have hfz5_0 := blk_frozen BK183.out 0; have hfz5_1 := blk_frozen BK183.out 1) | ((with_reducible refine gate_callee (f := 47) rfl ?_); refine goesL_ (some 11) rfl rfl Tryd.func47 (by kernel_rfl) rfl #[.int .u64 a0_0] rfl (by (try simp only [List.map_toArray, List.map_cons, List.map_nil]); first | done | rfl | (simp only [List.length_drop, List.length_take]; rfl)) ?_; (with_reducible refine (bits_TrailingZeros64.calls a0_0 t184 _ A3.out (hTab.below (by repeat (first | (with_reducible first | exact HB.out | apply below_alloc | apply pw_below_drewN | apply below_drew1 | refine below_set ?_ GE183.out) | exact HB.out)))).mono ?_); rintro e w6 ⟨rfl, hb⟩; refine ⟨_, rfl, ?_⟩; have n0_ := Aside0.mk (blk_below (g := gb183) (o := .cells #[.int .u64 a0_0, .int .u64 a0_1] 77 (0, 0)) (by (with_reducible repeat (first | refine blk_drewN ?_ _ | refine blk_drew ?_ | refine blk_alloc ?_ _)); exact BK183.out) hb); have n1_ := Aside0.mk (below_step (by repeat (first | (with_reducible first | exact HB.out | apply below_alloc | apply pw_below_drewN | apply below_drew1 | refine below_set ?_ GE183.out) | exact HB.out)) hb); clear BK183; clear HB; have BK183 := n0_; have HB := n1_; clear n0_ n1_; (try clear hb); (try clear hb2); (try clear hk); (try clear hi)))
    go_ret
    exact ⟨by first | rfl | (simp [errW_none, errW_some] <;> rfl) | (simp [*, errW_none, errW_some] <;> rfl), by repeat (first | (with_reducible first | exact HB.out | apply below_alloc | apply pw_below_drewN | apply below_drew1 | refine below_set ?_ GE183.out) | exact HB.out)⟩
  · rw [if_neg c2] at H
    have c2b0 : (a0_1 == 0) = false := beq_eq_false_iff_ne.mpr c2
    have c2b1 : (a0_1 != 0) = true := bne_iff_ne.mpr c2
    replace H := Option.bind_eq_some_iff.mp H
    obtain ⟨t185, A70, H⟩ := H
    replace H : (some t185) = some r := H
    have A7 := Aside0.mk A70
    clear A70
    obtain rfl := Option.some.inj H
    go_enter Tryd.func42, Tryd.ntmps42
    go_wp2_with (first | ((with_reducible refine gate_dst (N := 1) rfl ?_); refine box_event ?hg (N := 1) ?hd (cs := #[.int .u64 a0_0, .int .u64 a0_1]) (t := 77) ?hr ?_; (case hd => rfl); (case hg => rfl); (case hr => first | (go_simp; done) | (go_simp; rfl)); intro gb183 hg w8 hbox hb; have n0_ := Aside0.mk (below_step (by repeat (first | (with_reducible first | exact HB.out | apply below_alloc | apply pw_below_drewN | apply below_drew1) | exact HB.out)) hb); have n1_ := Aside0.mk (hbox); have n2_ := Aside0.mk ((by rw [hg]; exact (below_size (by repeat (first | (with_reducible first | exact HB.out | apply below_alloc | apply pw_below_drewN | apply below_drew1) | exact HB.out))) : w.heap.size ≤ gb183)); have n3_ := Aside0.mk ((by rw [hg]; exact (below_size (by repeat (first | (with_reducible first | exact HB.out | apply below_alloc | apply pw_below_drewN | apply below_drew1) | exact HB.out))) : w.heap.size ≤ gb183)); clear HB; have HB := n0_; have BK183 := n1_; have GW183 := n2_; have GE183 := n3_; clear n0_ n1_ n2_ n3_; clear hb hbox hg; have hcz9_0 : w8.cell? ⟨gb183, 0, none⟩ = some (.int .u64 a0_0) := (blk_cell BK183.out 0).trans rfl; have hcz9_1 : w8.cell? ⟨gb183, 1, none⟩ = some (.int .u64 a0_1) := (blk_cell BK183.out 1).trans rfl; have hfz9_0 := blk_frozen BK183.out 0; have hfz9_1 := blk_frozen BK183.out 1) | ((with_reducible refine gate_callee (f := 47) rfl ?_); refine goesL_ (some 8) rfl rfl Tryd.func47 (by kernel_rfl) rfl #[.int .u64 a0_1] rfl (by (try simp only [List.map_toArray, List.map_cons, List.map_nil]); first | done | rfl | (simp only [List.length_drop, List.length_take]; rfl)) ?_; (with_reducible refine (bits_TrailingZeros64.calls a0_1 t185 _ A7.out (hTab.below (by repeat (first | (with_reducible first | exact HB.out | apply below_alloc | apply pw_below_drewN | apply below_drew1 | refine below_set ?_ GE183.out) | exact HB.out)))).mono ?_); rintro e w10 ⟨rfl, hb⟩; refine ⟨_, rfl, ?_⟩; have n0_ := Aside0.mk (blk_below (g := gb183) (o := .cells #[.int .u64 a0_0, .int .u64 a0_1] 77 (0, 0)) (by (with_reducible repeat (first | refine blk_drewN ?_ _ | refine blk_drew ?_ | refine blk_alloc ?_ _)); exact BK183.out) hb); have n1_ := Aside0.mk (below_step (by repeat (first | (with_reducible first | exact HB.out | apply below_alloc | apply pw_below_drewN | apply below_drew1 | refine below_set ?_ GE183.out) | exact HB.out)) hb); clear BK183; clear HB; have BK183 := n0_; have HB := n1_; clear n0_ n1_; (try clear hb); (try clear hb2); (try clear hk); (try clear hi)))
    go_ret
    exact ⟨by first | rfl | (simp [errW_none, errW_some] <;> rfl) | (simp [*, errW_none, errW_some] <;> rfl), by repeat (first | (with_reducible first | exact HB.out | apply below_alloc | apply pw_below_drewN | apply below_drew1 | refine below_set ?_ GE183.out) | exact HB.out)⟩

/-! ### wide_right: function 48 -/
def wide_right.f (a0_0 : Int) (a0_1 : Int) (a1 : Int) : Option (Int × Int) := if a1 ≥ 64 then (if 0 ≤ (IntKind.u64.wrap (a1 - 64)) then (some (0, shr .u64 a0_0 (IntKind.u64.wrap (a1 - 64)))) else (none)) else (if 0 ≤ a1 then (if 0 ≤ (IntKind.u64.wrap (64 - a1)) then (some (shr .u64 a0_0 a1, Go.bits .or .u64 (shr .u64 a0_1 a1) (shl .u64 a0_0 (IntKind.u64.wrap (64 - a1))))) else (none)) else (none))
set_option maxHeartbeats 8000000 in
set_option maxRecDepth 100000 in
theorem wide_right.calls (a0_0 : Int) (a0_1 : Int) (a1 : Int) (r1 : Int) (r2 : Int) (w : World) (h : wide_right.f a0_0 a0_1 a1 = some (r1, r2)) :
    Calls Tryd.prog 48 #[.agg #[.int .u64 a0_0, .int .u64 a0_1], .int .u64 a1] w fun e w' => e = .returned (.agg #[.int .u64 r1, .int .u64 r2]) ∧ Below w.heap.size w w' := by
  have hu77 := Tryd.underlying77
  have HB := Aside0.mk (Below.refl w.heap.size w)
  have H : (if a1 ≥ 64 then (if 0 ≤ (IntKind.u64.wrap (a1 - 64)) then (some (0, shr .u64 a0_0 (IntKind.u64.wrap (a1 - 64)))) else (none)) else (if 0 ≤ a1 then (if 0 ≤ (IntKind.u64.wrap (64 - a1)) then (some (shr .u64 a0_0 a1, Go.bits .or .u64 (shr .u64 a0_1 a1) (shl .u64 a0_0 (IntKind.u64.wrap (64 - a1))))) else (none)) else (none))) = some (r1, r2) := h
  clear h
  by_cases c3 : a1 ≥ 64
  · rw [if_pos c3] at H
    have c3b0 : decide (64 ≤ a1) = true := decide_eq_true c3
    clear c3
    obtain ⟨ji4, hji4⟩ : ∃ j_ : Int, (IntKind.u64.wrap (a1 - 64)) = j_ := ⟨_, rfl⟩
    replace H : (if 0 ≤ (ji4) then (some (0, shr .u64 a0_0 (ji4))) else (none)) = some (r1, r2) := by first | (rw [hji4] at H; exact H) | (simp only [hji4] at H ⊢; exact H)
    by_cases c5 : 0 ≤ (ji4)
    · rw [if_pos c5] at H
      have c5b0 := eq_true c5
      have c5b1 : decide (0 ≤ (ji4)) = true := decide_eq_true c5
      clear c5
      obtain ⟨ji6, hji6⟩ : ∃ j_ : Int, (shr .u64 a0_0 (ji4)) = j_ := ⟨_, rfl⟩
      replace H : (some (0, ji6)) = some (r1, r2) := by first | (rw [hji6] at H; exact H) | (simp only [hji6] at H ⊢; exact H)
      have hji6_ : (a0_0 / 2 ^ min (ji4).toNat 64) = ji6 := hji6
      have hji6z : (ji4) ≤ 64 → (a0_0 / 2 ^ (ji4).toNat) = ji6 := shr_small hji6
      simp only [Option.some.injEq, Prod.mk.injEq] at H
      obtain ⟨rfl, rfl⟩ := H
      go_enter Tryd.func48, Tryd.ntmps48
      go_wp2_with (first | ((with_reducible refine gate_dst (N := 2) rfl ?_); refine box_event ?hg (N := 2) ?hd (cs := #[.int .u64 a0_0, .int .u64 a0_1]) (t := 77) ?hr ?_; (case hd => rfl); (case hg => rfl); (case hr => first | (go_simp; done) | (go_simp; rfl)); intro gb186 hg w7 hbox hb; have n0_ := Aside0.mk (below_step (by repeat (first | (with_reducible first | exact HB.out | apply below_alloc | apply pw_below_drewN | apply below_drew1) | exact HB.out)) hb); have n1_ := Aside0.mk (hbox); have n2_ := Aside0.mk ((by rw [hg]; exact (below_size (by repeat (first | (with_reducible first | exact HB.out | apply below_alloc | apply pw_below_drewN | apply below_drew1) | exact HB.out))) : w.heap.size ≤ gb186)); have n3_ := Aside0.mk ((by rw [hg]; exact (below_size (by repeat (first | (with_reducible first | exact HB.out | apply below_alloc | apply pw_below_drewN | apply below_drew1) | exact HB.out))) : w.heap.size ≤ gb186)); clear HB; have HB := n0_; have BK186 := n1_; have GW186 := n2_; have GE186 := n3_; clear n0_ n1_ n2_ n3_; clear hb hbox hg) | ((with_reducible refine gate_dst (N := 4) rfl ?_); refine box_event ?hg (N := 4) ?hd (cs := #[.int .u64 0, .int .u64 0]) (t := 77) ?hr ?_; (case hd => rfl); (case hg => rfl); (case hr => first | (go_simp; done) | (go_simp; rfl)); intro gb187 hg w8 hbox hb; have n0_ := Aside0.mk (blk_below (g := gb186) (o := .cells #[.int .u64 a0_0, .int .u64 a0_1] 77 (0, 0)) (by (with_reducible repeat (first | refine blk_drewN ?_ _ | refine blk_drew ?_ | refine blk_alloc ?_ _)); exact BK186.out) hb); have n1_ := Aside0.mk (below_step (by repeat (first | (with_reducible first | exact HB.out | apply below_alloc | apply pw_below_drewN | apply below_drew1 | refine below_set ?_ GE186.out) | exact HB.out)) hb); have n2_ := Aside0.mk (hbox); have n3_ := Aside0.mk ((by rw [hg]; exact (below_size (by repeat (first | (with_reducible first | exact HB.out | apply below_alloc | apply pw_below_drewN | apply below_drew1 | refine below_set ?_ GE186.out) | exact HB.out))) : w.heap.size ≤ gb187)); have n4_ := Aside0.mk ((by rw [hg]; exact (below_size (by repeat (first | (with_reducible first | exact HB.out | apply below_alloc | apply pw_below_drewN | apply below_drew1 | refine below_set ?_ GE186.out) | exact HB.out))) : w.heap.size ≤ gb187)); have n5_ := Aside0.mk ((by rw [hg]; exact Nat.ne_of_lt (blk_lt (g := gb186) (o := .cells #[.int .u64 a0_0, .int .u64 a0_1] 77 (0, 0)) (by (with_reducible repeat (first | refine blk_drewN ?_ _ | refine blk_drew ?_ | refine blk_alloc ?_ _)); exact BK186.out)) : gb186 ≠ gb187)); have n6_ := Aside0.mk ((by rw [hg]; exact Nat.ne_of_gt (blk_lt (g := gb186) (o := .cells #[.int .u64 a0_0, .int .u64 a0_1] 77 (0, 0)) (by (with_reducible repeat (first | refine blk_drewN ?_ _ | refine blk_drew ?_ | refine blk_alloc ?_ _)); exact BK186.out)) : gb187 ≠ gb186)); clear BK186; clear HB; have BK186 := n0_; have HB := n1_; have BK187 := n2_; have GW187 := n3_; have GE187 := n4_; have NB186_187 := n5_; have NB187_186 := n6_; clear n0_ n1_ n2_ n3_ n4_ n5_ n6_; clear hb hbox hg; have hnb9 := NB186_187.out; have hnc9 := NB187_186.out; have hcz10_0 : w8.cell? ⟨gb186, 0, none⟩ = some (.int .u64 a0_0) := (blk_cell BK186.out 0).trans rfl; have hcz10_1 : w8.cell? ⟨gb186, 1, none⟩ = some (.int .u64 a0_1) := (blk_cell BK186.out 1).trans rfl; have hfz10_0 := blk_frozen BK186.out 0; have hfz10_1 := blk_frozen BK186.out 1; have hcz11_0 : w8.cell? ⟨gb187, 0, none⟩ = some (.int .u64 0) := (blk_cell BK187.out 0).trans rfl; have hcz11_1 : w8.cell? ⟨gb187, 1, none⟩ = some (.int .u64 0) := (blk_cell BK187.out 1).trans rfl; have hfz11_0 := blk_frozen BK187.out 0; have hfz11_1 := blk_frozen BK187.out 1))
      refine bodyPost_ret (results_cell_row rfl _ _ gb187 77 #[.int .u64 0, .int .u64 ji6] (0, 0) _ rfl (by (with_reducible repeat (first | refine blk_drewN ?_ _ | refine blk_drew ?_ | refine blk_alloc ?_ _)); refine blk_put (cs := #[.int .u64 0, .int .u64 0]) ?_ 1 _ rfl; (with_reducible repeat (first | refine blk_drewN ?_ _ | refine blk_drew ?_ | refine blk_alloc ?_ _)); refine blk_put (cs := #[.int .u64 0, .int .u64 0]) ?_ 0 _ rfl; (with_reducible repeat (first | refine blk_drewN ?_ _ | refine blk_drew ?_ | refine blk_alloc ?_ _)); exact BK187.out) Tryd.underlying77 rfl (by kernel_rfl)) rfl ?_
      exact ⟨by first | rfl | (simp [errW_none, errW_some] <;> rfl) | (simp only [← hji4, ← hji6]; first | rfl | (simp [errW_none, errW_some] <;> rfl)) | (simp [*, errW_none, errW_some] <;> rfl), by repeat (first | (with_reducible first | exact HB.out | apply below_alloc | apply pw_below_drewN | apply below_drew1 | refine below_set ?_ GE186.out | refine below_set ?_ GE187.out) | exact HB.out)⟩
    · rw [if_neg c5] at H
      exact absurd H (by simp)
  · rw [if_neg c3] at H
    have c3b0 : decide (64 ≤ a1) = false := decide_eq_false c3
    clear c3
    by_cases c12 : 0 ≤ a1
    · rw [if_pos c12] at H
      have c12b0 := eq_true c12
      have c12b1 : decide (0 ≤ a1) = true := decide_eq_true c12
      clear c12
      obtain ⟨ji13, hji13⟩ : ∃ j_ : Int, (shr .u64 a0_0 a1) = j_ := ⟨_, rfl⟩
      replace H : (if 0 ≤ (IntKind.u64.wrap (64 - a1)) then (some (ji13, Go.bits .or .u64 (shr .u64 a0_1 a1) (shl .u64 a0_0 (IntKind.u64.wrap (64 - a1))))) else (none)) = some (r1, r2) := by first | (rw [hji13] at H; exact H) | (simp only [hji13] at H ⊢; exact H)
      have hji13_ : (a0_0 / 2 ^ min a1.toNat 64) = ji13 := hji13
      have hji13z : a1 ≤ 64 → (a0_0 / 2 ^ a1.toNat) = ji13 := shr_small hji13
      have c14b0 := eq_true (of_decide_eq_true (by first | (with_reducible assumption) | assumption) : 0 ≤ a1)
      obtain ⟨ji15, hji15⟩ : ∃ j_ : Int, (shr .u64 a0_1 a1) = j_ := ⟨_, rfl⟩
      replace H : (if 0 ≤ (IntKind.u64.wrap (64 - a1)) then (some (ji13, Go.bits .or .u64 (ji15) (shl .u64 a0_0 (IntKind.u64.wrap (64 - a1))))) else (none)) = some (r1, r2) := by first | (rw [hji15] at H; exact H) | (simp only [hji15] at H ⊢; exact H)
      have hji15_ : (a0_1 / 2 ^ min a1.toNat 64) = ji15 := hji15
      have hji15z : a1 ≤ 64 → (a0_1 / 2 ^ a1.toNat) = ji15 := shr_small hji15
      obtain ⟨ji16, hji16⟩ : ∃ j_ : Int, (IntKind.u64.wrap (64 - a1)) = j_ := ⟨_, rfl⟩
      replace H : (if 0 ≤ (ji16) then (some (ji13, Go.bits .or .u64 (ji15) (shl .u64 a0_0 (ji16)))) else (none)) = some (r1, r2) := by first | (rw [hji16] at H; exact H) | (simp only [hji16] at H ⊢; exact H)
      by_cases c17 : 0 ≤ (ji16)
      · rw [if_pos c17] at H
        have c17b0 := eq_true c17
        have c17b1 : decide (0 ≤ (ji16)) = true := decide_eq_true c17
        clear c17
        obtain ⟨ji18, hji18⟩ : ∃ j_ : Int, (shl .u64 a0_0 (ji16)) = j_ := ⟨_, rfl⟩
        replace H : (some (ji13, Go.bits .or .u64 (ji15) (ji18))) = some (r1, r2) := by first | (rw [hji18] at H; exact H) | (simp only [hji18] at H ⊢; exact H)
        have hji18_ : (IntKind.u64.wrap (a0_0 * 2 ^ min (ji16).toNat 64)) = ji18 := hji18
        have hji18z : (ji16) ≤ 64 → (IntKind.u64.wrap (a0_0 * 2 ^ (ji16).toNat)) = ji18 := shl_small hji18
        simp only [Option.some.injEq, Prod.mk.injEq] at H
        obtain ⟨rfl, rfl⟩ := H
        go_enter Tryd.func48, Tryd.ntmps48
        go_wp2_with (first | ((with_reducible refine gate_dst (N := 2) rfl ?_); refine box_event ?hg (N := 2) ?hd (cs := #[.int .u64 a0_0, .int .u64 a0_1]) (t := 77) ?hr ?_; (case hd => rfl); (case hg => rfl); (case hr => first | (go_simp; done) | (go_simp; rfl)); intro gb186 hg w19 hbox hb; have n0_ := Aside0.mk (below_step (by repeat (first | (with_reducible first | exact HB.out | apply below_alloc | apply pw_below_drewN | apply below_drew1) | exact HB.out)) hb); have n1_ := Aside0.mk (hbox); have n2_ := Aside0.mk ((by rw [hg]; exact (below_size (by repeat (first | (with_reducible first | exact HB.out | apply below_alloc | apply pw_below_drewN | apply below_drew1) | exact HB.out))) : w.heap.size ≤ gb186)); have n3_ := Aside0.mk ((by rw [hg]; exact (below_size (by repeat (first | (with_reducible first | exact HB.out | apply below_alloc | apply pw_below_drewN | apply below_drew1) | exact HB.out))) : w.heap.size ≤ gb186)); clear HB; have HB := n0_; have BK186 := n1_; have GW186 := n2_; have GE186 := n3_; clear n0_ n1_ n2_ n3_; clear hb hbox hg) | ((with_reducible refine gate_dst (N := 4) rfl ?_); refine box_event ?hg (N := 4) ?hd (cs := #[.int .u64 0, .int .u64 0]) (t := 77) ?hr ?_; (case hd => rfl); (case hg => rfl); (case hr => first | (go_simp; done) | (go_simp; rfl)); intro gb187 hg w20 hbox hb; have n0_ := Aside0.mk (blk_below (g := gb186) (o := .cells #[.int .u64 a0_0, .int .u64 a0_1] 77 (0, 0)) (by (with_reducible repeat (first | refine blk_drewN ?_ _ | refine blk_drew ?_ | refine blk_alloc ?_ _)); exact BK186.out) hb); have n1_ := Aside0.mk (below_step (by repeat (first | (with_reducible first | exact HB.out | apply below_alloc | apply pw_below_drewN | apply below_drew1 | refine below_set ?_ GE186.out) | exact HB.out)) hb); have n2_ := Aside0.mk (hbox); have n3_ := Aside0.mk ((by rw [hg]; exact (below_size (by repeat (first | (with_reducible first | exact HB.out | apply below_alloc | apply pw_below_drewN | apply below_drew1 | refine below_set ?_ GE186.out) | exact HB.out))) : w.heap.size ≤ gb187)); have n4_ := Aside0.mk ((by rw [hg]; exact (below_size (by repeat (first | (with_reducible first | exact HB.out | apply below_alloc | apply pw_below_drewN | apply below_drew1 | refine below_set ?_ GE186.out) | exact HB.out))) : w.heap.size ≤ gb187)); have n5_ := Aside0.mk ((by rw [hg]; exact Nat.ne_of_lt (blk_lt (g := gb186) (o := .cells #[.int .u64 a0_0, .int .u64 a0_1] 77 (0, 0)) (by (with_reducible repeat (first | refine blk_drewN ?_ _ | refine blk_drew ?_ | refine blk_alloc ?_ _)); exact BK186.out)) : gb186 ≠ gb187)); have n6_ := Aside0.mk ((by rw [hg]; exact Nat.ne_of_gt (blk_lt (g := gb186) (o := .cells #[.int .u64 a0_0, .int .u64 a0_1] 77 (0, 0)) (by (with_reducible repeat (first | refine blk_drewN ?_ _ | refine blk_drew ?_ | refine blk_alloc ?_ _)); exact BK186.out)) : gb187 ≠ gb186)); clear BK186; clear HB; have BK186 := n0_; have HB := n1_; have BK187 := n2_; have GW187 := n3_; have GE187 := n4_; have NB186_187 := n5_; have NB187_186 := n6_; clear n0_ n1_ n2_ n3_ n4_ n5_ n6_; clear hb hbox hg; have hnb21 := NB186_187.out; have hnc21 := NB187_186.out; have hcz22_0 : w20.cell? ⟨gb186, 0, none⟩ = some (.int .u64 a0_0) := (blk_cell BK186.out 0).trans rfl; have hcz22_1 : w20.cell? ⟨gb186, 1, none⟩ = some (.int .u64 a0_1) := (blk_cell BK186.out 1).trans rfl; have hfz22_0 := blk_frozen BK186.out 0; have hfz22_1 := blk_frozen BK186.out 1; have hcz23_0 : w20.cell? ⟨gb187, 0, none⟩ = some (.int .u64 0) := (blk_cell BK187.out 0).trans rfl; have hcz23_1 : w20.cell? ⟨gb187, 1, none⟩ = some (.int .u64 0) := (blk_cell BK187.out 1).trans rfl; have hfz23_0 := blk_frozen BK187.out 0; have hfz23_1 := blk_frozen BK187.out 1))
        refine bodyPost_ret (results_cell_row rfl _ _ gb187 77 #[.int .u64 ji13, .int .u64 (Go.bits .or .u64 (ji15) (ji18))] (0, 0) _ rfl (by (with_reducible repeat (first | refine blk_drewN ?_ _ | refine blk_drew ?_ | refine blk_alloc ?_ _)); refine blk_put (cs := #[.int .u64 ji13, .int .u64 0]) ?_ 1 _ rfl; (with_reducible repeat (first | refine blk_drewN ?_ _ | refine blk_drew ?_ | refine blk_alloc ?_ _)); refine blk_put (cs := #[.int .u64 0, .int .u64 0]) ?_ 0 _ rfl; (with_reducible repeat (first | refine blk_drewN ?_ _ | refine blk_drew ?_ | refine blk_alloc ?_ _)); exact BK187.out) Tryd.underlying77 rfl (by kernel_rfl)) rfl ?_
        exact ⟨by first | rfl | (simp [errW_none, errW_some] <;> rfl) | (simp only [← hji13, ← hji15, ← hji16, ← hji18]; first | rfl | (simp [errW_none, errW_some] <;> rfl)) | (simp [*, errW_none, errW_some] <;> rfl), by repeat (first | (with_reducible first | exact HB.out | apply below_alloc | apply pw_below_drewN | apply below_drew1 | refine below_set ?_ GE186.out | refine below_set ?_ GE187.out) | exact HB.out)⟩
      · rw [if_neg c17] at H
        exact absurd H (by simp)
    · rw [if_neg c12] at H
      exact absurd H (by simp)

end Go.Proofs.YtjcgmjhcaaaieaaDoor.Pr
