-- printed by a program of this session's (wip/mp.sh), out of the translation; the texts of its folder 'given' are typed by hand
import Derived.Test.YthimbpoeoegehaaPr0
import Derived.Test.YthimbpoeoegehaaPr2
import Derived.Test.YthimbpoeoegehaaPr3
import Derived.Test.YthimbpoeoegehaaPr10
import Derived.Test.YthimbpoeoegehaaPr11
namespace Go.Proofs.Ythimbpoeoegehaa.Pr
open Go.RowKit Go.Proofs.YthimbpoeoegehaaW.PrintWords Go.Proofs.YthimbpoeoegehaaW.PrintLast Go.Proofs.YthimbpoeoegehaaW.PrintMore
attribute [local go_sem] max2_int min2_int max_two min_two max_three min_three max_four min_four   -- for this text's walks alone
set_option linter.unusedVariables false
set_option linter.unusedSimpArgs false

attribute [local go_sem high] eqA27
/-! ### pochoirlaw25_CellMiddles: function 3 -/
def pochoirlaw25_CellMiddles.f (k : Nat) (a0_0 : Int) (a0_1 : Int) (a0_2 : Int) (a0_3 : Int) (a1 : Int) (a2_0 : Int) (a2_1 : Int) (a2_2 : Int) : Option (Bool) := (pochoirlaw25_awake.f k).bind fun t165 => (if t165 = true then ((cell_Middle.f k a0_0 a0_1 a0_2 a0_3 a1 a2_0 a2_1).bind fun bt166 => ((pochoirref25_Middle.f k a0_0 a0_1 a0_2 a0_3 a1 a2_0 a2_1).bind fun bt170 => (if (!(bt166.1 == bt170.1) || (!(bt166.2.1 == bt170.2.1))) = true then (some false) else (if bt166.2.2 = bt170.2.2 then ((cell_May.f a0_0 a0_1 a0_2 a0_3).bind fun t174 => ((pochoirref25_May.f a0_0 a0_1 a0_2 a0_3).bind fun t175 => (if (t174 != t175) = true then (some false) else ((pochoirlaw25_told.f a0_0 a0_1 a0_2 a0_3 a1 (mn (mx a2_2 0) 1000)).bind fun t176 => (some t176))))) else (some false))))) else (some false))
theorem pochoirlaw25_CellMiddles.mono : ∀ a0 a1 a2 a3 a4 a5 a6 a7 k, LeO (pochoirlaw25_CellMiddles.f k a0 a1 a2 a3 a4 a5 a6 a7) (pochoirlaw25_CellMiddles.f (k + 1) a0 a1 a2 a3 a4 a5 a6 a7) := by
  intro a0 a1 a2 a3 a4 a5 a6 a7 k
  unfold pochoirlaw25_CellMiddles.f
  repeat' first
      | (with_reducible exact cell_Middle.mono _ _ _ _ _ _ _ _)
      | (with_reducible exact pochoirlaw25_awake.mono _)
      | (with_reducible exact pochoirref25_Middle.mono _ _ _ _ _ _ _ _)
      | (with_reducible exact LeO.refl _)
      | (with_reducible exact LeO.none _)
      | (with_reducible refine LeO.ite ?_ ?_)
      | (with_reducible refine LeO.bind ?_ (fun _ => ?_))
      | exact cell_Middle.mono _ _ _ _ _ _ _ _
      | exact pochoirlaw25_awake.mono _
      | exact pochoirref25_Middle.mono _ _ _ _ _ _ _ _
      | exact LeO.none _
      | refine LeO.ite ?_ ?_
      | refine LeO.bind ?_ (fun _ => ?_)
def pochoirlaw25_CellMiddles.T5 : Bool × List (List Nat × List Nat) := (true, [([], []), ([], []), ([0, 1], [0, 1]), ([2], [2]), ([3], [3]), ([3], [3]), ([4, 5, 3], [3, 4, 5]), ([3, 6], [3, 6]), ([7, 3], [7]), ([8], [8]), ([9, 8, 8], [8, 9]), ([8], [8]), ([11, 10, 8], [8, 11]), ([10, 12, 8], [8, 10, 12]), ([8, 13], [8, 13])])
def pochoirlaw25_CellMiddles.B5 : List Nat := [0, 0, 3, 7, 15, 15, 63, 127, 255, 511, 1023, 511, 4095, 8191, 16383]
theorem pochoirlaw25_CellMiddles.tab5 : rtab .any (opsOf Try.f3 5) = pochoirlaw25_CellMiddles.T5 := by kernel_rfl
theorem pochoirlaw25_CellMiddles.bits5 : waitsOk pochoirlaw25_CellMiddles.T5.2 pochoirlaw25_CellMiddles.B5 = true := by kernel_rfl
set_option maxHeartbeats 8000000 in
set_option maxRecDepth 100000 in
theorem pochoirlaw25_CellMiddles.calls (k : Nat) (a0_0 : Int) (a0_1 : Int) (a0_2 : Int) (a0_3 : Int) (a1 : Int) (a2_0 : Int) (a2_1 : Int) (a2_2 : Int) (r : Bool) (w : World) (h : pochoirlaw25_CellMiddles.f k a0_0 a0_1 a0_2 a0_3 a1 a2_0 a2_1 a2_2 = some r) :
    Calls Try.prog 3 #[.agg #[.int .i64 a0_0, .int .i64 a0_1, .int .i64 a0_2, .int .i64 a0_3], .int .i64 a1, .agg #[.int .i64 a2_0, .int .i64 a2_1, .int .i64 a2_2]] w fun e w' => e = .returned (.bool r) ∧ Below w.heap.size w w' := by
  have hu23 := Try.underlying23
  have hu24 := Try.underlying24
  have hu27 := Try.underlying27
  have HB := Aside0.mk (Below.refl w.heap.size w)
  have H : ((pochoirlaw25_awake.f k).bind fun t165 => (if t165 = true then ((cell_Middle.f k a0_0 a0_1 a0_2 a0_3 a1 a2_0 a2_1).bind fun bt166 => ((pochoirref25_Middle.f k a0_0 a0_1 a0_2 a0_3 a1 a2_0 a2_1).bind fun bt170 => (if (!(bt166.1 == bt170.1) || (!(bt166.2.1 == bt170.2.1))) = true then (some false) else (if bt166.2.2 = bt170.2.2 then ((cell_May.f a0_0 a0_1 a0_2 a0_3).bind fun t174 => ((pochoirref25_May.f a0_0 a0_1 a0_2 a0_3).bind fun t175 => (if (t174 != t175) = true then (some false) else ((pochoirlaw25_told.f a0_0 a0_1 a0_2 a0_3 a1 (mn (mx a2_2 0) 1000)).bind fun t176 => (some t176))))) else (some false))))) else (some false))) = some r := h
  clear h
  replace H := Option.bind_eq_some_iff.mp H
  obtain ⟨t165, A40, H⟩ := H
  replace H : (if t165 = true then ((cell_Middle.f k a0_0 a0_1 a0_2 a0_3 a1 a2_0 a2_1).bind fun bt166 => ((pochoirref25_Middle.f k a0_0 a0_1 a0_2 a0_3 a1 a2_0 a2_1).bind fun bt170 => (if (!(bt166.1 == bt170.1) || (!(bt166.2.1 == bt170.2.1))) = true then (some false) else (if bt166.2.2 = bt170.2.2 then ((cell_May.f a0_0 a0_1 a0_2 a0_3).bind fun t174 => ((pochoirref25_May.f a0_0 a0_1 a0_2 a0_3).bind fun t175 => (if (t174 != t175) = true then (some false) else ((pochoirlaw25_told.f a0_0 a0_1 a0_2 a0_3 a1 (mn (mx a2_2 0) 1000)).bind fun t176 => (some t176))))) else (some false))))) else (some false)) = some r := H
  have A4 := Aside0.mk A40
  clear A40
  by_cases c5 : t165 = true
  · subst c5
    have H1 : ((cell_Middle.f k a0_0 a0_1 a0_2 a0_3 a1 a2_0 a2_1).bind fun bt166 => ((pochoirref25_Middle.f k a0_0 a0_1 a0_2 a0_3 a1 a2_0 a2_1).bind fun bt170 => (if (!(bt166.1 == bt170.1) || (!(bt166.2.1 == bt170.2.1))) = true then (some false) else (if bt166.2.2 = bt170.2.2 then ((cell_May.f a0_0 a0_1 a0_2 a0_3).bind fun t174 => ((pochoirref25_May.f a0_0 a0_1 a0_2 a0_3).bind fun t175 => (if (t174 != t175) = true then (some false) else ((pochoirlaw25_told.f a0_0 a0_1 a0_2 a0_3 a1 (mn (mx a2_2 0) 1000)).bind fun t176 => (some t176))))) else (some false))))) = some r := by rw [if_pos rfl] at H; exact H
    clear H
    have H := H1
    clear H1
    replace H := Option.bind_eq_some_iff.mp H
    obtain ⟨⟨t166, t167, t168⟩, A60, H⟩ := H
    replace H : ((pochoirref25_Middle.f k a0_0 a0_1 a0_2 a0_3 a1 a2_0 a2_1).bind fun bt170 => (if (!(t166 == bt170.1) || (!(t167 == bt170.2.1))) = true then (some false) else (if t168 = bt170.2.2 then ((cell_May.f a0_0 a0_1 a0_2 a0_3).bind fun t174 => ((pochoirref25_May.f a0_0 a0_1 a0_2 a0_3).bind fun t175 => (if (t174 != t175) = true then (some false) else ((pochoirlaw25_told.f a0_0 a0_1 a0_2 a0_3 a1 (mn (mx a2_2 0) 1000)).bind fun t176 => (some t176))))) else (some false)))) = some r := H
    have A6 := Aside0.mk A60
    clear A60
    replace H := Option.bind_eq_some_iff.mp H
    obtain ⟨⟨t170, t171, t172⟩, A70, H⟩ := H
    replace H : (if (!(t166 == t170) || (!(t167 == t171))) = true then (some false) else (if t168 = t172 then ((cell_May.f a0_0 a0_1 a0_2 a0_3).bind fun t174 => ((pochoirref25_May.f a0_0 a0_1 a0_2 a0_3).bind fun t175 => (if (t174 != t175) = true then (some false) else ((pochoirlaw25_told.f a0_0 a0_1 a0_2 a0_3 a1 (mn (mx a2_2 0) 1000)).bind fun t176 => (some t176))))) else (some false))) = some r := H
    have A7 := Aside0.mk A70
    clear A70
    by_cases c8 : (!(t166 == t170) || (!(t167 == t171))) = true
    · rw [if_pos c8] at H
      have c8b0 : (!(t166 == t170) || (!(t167 == t171))) = true := c8
      clear c8
      obtain rfl := Option.some.inj H
      go_enter Try.func3, Try.ntmps3
      try go_wp2_with (first | ((with_reducible refine gate_dst (N := 3) rfl ?_); refine box_event ?hg (N := 3) ?hd (cs := #[.int .i64 a0_0, .int .i64 a0_1, .int .i64 a0_2, .int .i64 a0_3]) (t := 23) ?hr ?_; (case hd => rfl); (case hg => rfl); (case hr => first | (go_simp; done) | (go_simp; rfl)); intro gb163 hg w9 hbox hb; have n0_ := Aside0.mk (below_step (by repeat (first | (with_reducible first | exact HB.out | apply below_alloc | apply pw_below_drewN | apply below_drew1) | exact HB.out)) hb); have n1_ := Aside0.mk (hbox); have n2_ := Aside0.mk ((by rw [hg]; exact (below_size (by repeat (first | (with_reducible first | exact HB.out | apply below_alloc | apply pw_below_drewN | apply below_drew1) | exact HB.out))) : w.heap.size ≤ gb163)); have n3_ := Aside0.mk ((by rw [hg]; exact (below_size (by repeat (first | (with_reducible first | exact HB.out | apply below_alloc | apply pw_below_drewN | apply below_drew1) | exact HB.out))) : w.heap.size ≤ gb163)); clear HB; have HB := n0_; have BK163 := n1_; have GW163 := n2_; have GE163 := n3_; clear n0_ n1_ n2_ n3_; clear hb hbox hg) | ((with_reducible refine gate_dst (N := 5) rfl ?_); refine box_event ?hg (N := 5) ?hd (cs := #[.int .i64 a2_0, .int .i64 a2_1, .int .i64 a2_2]) (t := 24) ?hr ?_; (case hd => rfl); (case hg => rfl); (case hr => first | (go_simp; done) | (go_simp; rfl)); intro gb164 hg w10 hbox hb; have n0_ := Aside0.mk (blk_below (g := gb163) (o := .cells #[.int .i64 a0_0, .int .i64 a0_1, .int .i64 a0_2, .int .i64 a0_3] 23 (0, 0)) (by (with_reducible repeat (first | refine blk_drewN ?_ _ | refine blk_drew ?_ | refine blk_alloc ?_ _)); exact BK163.out) hb); have n1_ := Aside0.mk (below_step (by repeat (first | (with_reducible first | exact HB.out | apply below_alloc | apply pw_below_drewN | apply below_drew1 | refine below_set ?_ GE163.out) | exact HB.out)) hb); have n2_ := Aside0.mk (hbox); have n3_ := Aside0.mk ((by rw [hg]; exact (below_size (by repeat (first | (with_reducible first | exact HB.out | apply below_alloc | apply pw_below_drewN | apply below_drew1 | refine below_set ?_ GE163.out) | exact HB.out))) : w.heap.size ≤ gb164)); have n4_ := Aside0.mk ((by rw [hg]; exact (below_size (by repeat (first | (with_reducible first | exact HB.out | apply below_alloc | apply pw_below_drewN | apply below_drew1 | refine below_set ?_ GE163.out) | exact HB.out))) : w.heap.size ≤ gb164)); have n5_ := Aside0.mk ((by rw [hg]; exact Nat.ne_of_lt (blk_lt (g := gb163) (o := .cells #[.int .i64 a0_0, .int .i64 a0_1, .int .i64 a0_2, .int .i64 a0_3] 23 (0, 0)) (by (with_reducible repeat (first | refine blk_drewN ?_ _ | refine blk_drew ?_ | refine blk_alloc ?_ _)); exact BK163.out)) : gb163 ≠ gb164)); have n6_ := Aside0.mk ((by rw [hg]; exact Nat.ne_of_gt (blk_lt (g := gb163) (o := .cells #[.int .i64 a0_0, .int .i64 a0_1, .int .i64 a0_2, .int .i64 a0_3] 23 (0, 0)) (by (with_reducible repeat (first | refine blk_drewN ?_ _ | refine blk_drew ?_ | refine blk_alloc ?_ _)); exact BK163.out)) : gb164 ≠ gb163)); clear BK163; clear HB; have BK163 := n0_; have HB := n1_; have BK164 := n2_; have GW164 := n3_; have GE164 := n4_; have NB163_164 := n5_; have NB164_163 := n6_; clear n0_ n1_ n2_ n3_ n4_ n5_ n6_; clear hb hbox hg) | ((with_reducible refine gate_callee (f := 4) rfl ?_); refine goesL_ (some 11) rfl rfl Try.func4 (by kernel_rfl) rfl #[] rfl (by (try simp only [List.map_toArray, List.map_cons, List.map_nil]); first | done | rfl | (simp only [List.length_drop, List.length_take]; rfl)) ?_; (with_reducible refine (pochoirlaw25_awake.calls k  true _ A4.out).mono ?_); rintro e w11 ⟨rfl, hb⟩; refine ⟨_, rfl, ?_⟩; have n0_ := Aside0.mk (blk_below (g := gb163) (o := .cells #[.int .i64 a0_0, .int .i64 a0_1, .int .i64 a0_2, .int .i64 a0_3] 23 (0, 0)) (by (with_reducible repeat (first | refine blk_drewN ?_ _ | refine blk_drew ?_ | refine blk_alloc ?_ _)); exact BK163.out) hb); have n1_ := Aside0.mk (blk_below (g := gb164) (o := .cells #[.int .i64 a2_0, .int .i64 a2_1, .int .i64 a2_2] 24 (0, 0)) (by (with_reducible repeat (first | refine blk_drewN ?_ _ | refine blk_drew ?_ | refine blk_alloc ?_ _)); exact BK164.out) hb); have n2_ := Aside0.mk (below_step (by repeat (first | (with_reducible first | exact HB.out | apply below_alloc | apply pw_below_drewN | apply below_drew1 | refine below_set ?_ GE163.out | refine below_set ?_ GE164.out) | exact HB.out)) hb); clear BK163; clear BK164; clear HB; have BK163 := n0_; have BK164 := n1_; have HB := n2_; clear n0_ n1_ n2_; (try clear hb); (try clear hb2); (try clear hk); (try clear hi); have hnb12 := NB163_164.out; have hnc12 := NB164_163.out; have hcz13_0 : w11.cell? ⟨gb163, 0, none⟩ = some (.int .i64 a0_0) := (blk_cell BK163.out 0).trans rfl; have hcz13_1 : w11.cell? ⟨gb163, 1, none⟩ = some (.int .i64 a0_1) := (blk_cell BK163.out 1).trans rfl; have hcz13_2 : w11.cell? ⟨gb163, 2, none⟩ = some (.int .i64 a0_2) := (blk_cell BK163.out 2).trans rfl; have hcz13_3 : w11.cell? ⟨gb163, 3, none⟩ = some (.int .i64 a0_3) := (blk_cell BK163.out 3).trans rfl; have hfz13_0 := blk_frozen BK163.out 0; have hfz13_1 := blk_frozen BK163.out 1; have hfz13_2 := blk_frozen BK163.out 2; have hfz13_3 := blk_frozen BK163.out 3; have hcz14_0 : w11.cell? ⟨gb164, 0, none⟩ = some (.int .i64 a2_0) := (blk_cell BK164.out 0).trans rfl; have hcz14_1 : w11.cell? ⟨gb164, 1, none⟩ = some (.int .i64 a2_1) := (blk_cell BK164.out 1).trans rfl; have hcz14_2 : w11.cell? ⟨gb164, 2, none⟩ = some (.int .i64 a2_2) := (blk_cell BK164.out 2).trans rfl; have hfz14_0 := blk_frozen BK164.out 0; have hfz14_1 := blk_frozen BK164.out 1; have hfz14_2 := blk_frozen BK164.out 2) | ((with_reducible refine gate_callee (f := 5) rfl ?_); refine goesL_ (some 20) rfl rfl Try.func5 (by kernel_rfl) rfl #[.agg #[.int .i64 a0_0, .int .i64 a0_1, .int .i64 a0_2, .int .i64 a0_3], .int .i64 a1, .int .i64 a2_0, .int .i64 a2_1] rfl (by (try simp only [List.map_toArray, List.map_cons, List.map_nil]); first | done | rfl | (simp only [List.length_drop, List.length_take]; rfl)) ?_; (with_reducible refine (cell_Middle.calls k a0_0 a0_1 a0_2 a0_3 a1 a2_0 a2_1 t166 t167 t168 _ A6.out).mono ?_); rintro e w15 ⟨rfl, hb⟩; refine ⟨_, rfl, ?_⟩; have n0_ := Aside0.mk (blk_below (g := gb163) (o := .cells #[.int .i64 a0_0, .int .i64 a0_1, .int .i64 a0_2, .int .i64 a0_3] 23 (0, 0)) (by (with_reducible repeat (first | refine blk_drewN ?_ _ | refine blk_drew ?_ | refine blk_alloc ?_ _)); exact BK163.out) hb); have n1_ := Aside0.mk (blk_below (g := gb164) (o := .cells #[.int .i64 a2_0, .int .i64 a2_1, .int .i64 a2_2] 24 (0, 0)) (by (with_reducible repeat (first | refine blk_drewN ?_ _ | refine blk_drew ?_ | refine blk_alloc ?_ _)); exact BK164.out) hb); have n2_ := Aside0.mk (below_step (by repeat (first | (with_reducible first | exact HB.out | apply below_alloc | apply pw_below_drewN | apply below_drew1 | refine below_set ?_ GE163.out | refine below_set ?_ GE164.out) | exact HB.out)) hb); clear BK163; clear BK164; clear HB; have BK163 := n0_; have BK164 := n1_; have HB := n2_; clear n0_ n1_ n2_; (try clear hb); (try clear hb2); (try clear hk); (try clear hi)) | ((with_reducible refine gate_dst (N := 7) rfl ?_); refine box_event ?hg (N := 7) ?hd (cs := #[.int .i64 0, .int .i64 0]) (t := 27) ?hr ?_; (case hd => rfl); (case hg => rfl); (case hr => first | (go_simp; done) | (go_simp; rfl)); intro gb169 hg w16 hbox hb; have n0_ := Aside0.mk (blk_below (g := gb163) (o := .cells #[.int .i64 a0_0, .int .i64 a0_1, .int .i64 a0_2, .int .i64 a0_3] 23 (0, 0)) (by (with_reducible repeat (first | refine blk_drewN ?_ _ | refine blk_drew ?_ | refine blk_alloc ?_ _)); exact BK163.out) hb); have n1_ := Aside0.mk (blk_below (g := gb164) (o := .cells #[.int .i64 a2_0, .int .i64 a2_1, .int .i64 a2_2] 24 (0, 0)) (by (with_reducible repeat (first | refine blk_drewN ?_ _ | refine blk_drew ?_ | refine blk_alloc ?_ _)); exact BK164.out) hb); have n2_ := Aside0.mk (below_step (by repeat (first | (with_reducible first | exact HB.out | apply below_alloc | apply pw_below_drewN | apply below_drew1 | refine below_set ?_ GE163.out | refine below_set ?_ GE164.out) | exact HB.out)) hb); have n3_ := Aside0.mk (hbox); have n4_ := Aside0.mk ((by rw [hg]; exact (below_size (by repeat (first | (with_reducible first | exact HB.out | apply below_alloc | apply pw_below_drewN | apply below_drew1 | refine below_set ?_ GE163.out | refine below_set ?_ GE164.out) | exact HB.out))) : w.heap.size ≤ gb169)); have n5_ := Aside0.mk ((by rw [hg]; exact (below_size (by repeat (first | (with_reducible first | exact HB.out | apply below_alloc | apply pw_below_drewN | apply below_drew1 | refine below_set ?_ GE163.out | refine below_set ?_ GE164.out) | exact HB.out))) : w.heap.size ≤ gb169)); have n6_ := Aside0.mk ((by rw [hg]; exact Nat.ne_of_lt (blk_lt (g := gb163) (o := .cells #[.int .i64 a0_0, .int .i64 a0_1, .int .i64 a0_2, .int .i64 a0_3] 23 (0, 0)) (by (with_reducible repeat (first | refine blk_drewN ?_ _ | refine blk_drew ?_ | refine blk_alloc ?_ _)); exact BK163.out)) : gb163 ≠ gb169)); have n7_ := Aside0.mk ((by rw [hg]; exact Nat.ne_of_gt (blk_lt (g := gb163) (o := .cells #[.int .i64 a0_0, .int .i64 a0_1, .int .i64 a0_2, .int .i64 a0_3] 23 (0, 0)) (by (with_reducible repeat (first | refine blk_drewN ?_ _ | refine blk_drew ?_ | refine blk_alloc ?_ _)); exact BK163.out)) : gb169 ≠ gb163)); have n8_ := Aside0.mk ((by rw [hg]; exact Nat.ne_of_lt (blk_lt (g := gb164) (o := .cells #[.int .i64 a2_0, .int .i64 a2_1, .int .i64 a2_2] 24 (0, 0)) (by (with_reducible repeat (first | refine blk_drewN ?_ _ | refine blk_drew ?_ | refine blk_alloc ?_ _)); exact BK164.out)) : gb164 ≠ gb169)); have n9_ := Aside0.mk ((by rw [hg]; exact Nat.ne_of_gt (blk_lt (g := gb164) (o := .cells #[.int .i64 a2_0, .int .i64 a2_1, .int .i64 a2_2] 24 (0, 0)) (by (with_reducible repeat (first | refine blk_drewN ?_ _ | refine blk_drew ?_ | refine blk_alloc ?_ _)); exact BK164.out)) : gb169 ≠ gb164)); clear BK163; clear BK164; clear HB; have BK163 := n0_; have BK164 := n1_; have HB := n2_; have BK169 := n3_; have GW169 := n4_; have GE169 := n5_; have NB163_169 := n6_; have NB169_163 := n7_; have NB164_169 := n8_; have NB169_164 := n9_; clear n0_ n1_ n2_ n3_ n4_ n5_ n6_ n7_ n8_ n9_; clear hb hbox hg; have hnb17 := NB169_163.out; have hnc17 := NB163_169.out; have hnb18 := NB169_164.out; have hnc18 := NB164_169.out; have hcz19_0 : w16.cell? ⟨gb169, 0, none⟩ = some (.int .i64 0) := (blk_cell BK169.out 0).trans rfl; have hcz19_1 : w16.cell? ⟨gb169, 1, none⟩ = some (.int .i64 0) := (blk_cell BK169.out 1).trans rfl; have hfz19_0 := blk_frozen BK169.out 0; have hfz19_1 := blk_frozen BK169.out 1; have hcz20_0 : w16.cell? ⟨gb163, 0, none⟩ = some (.int .i64 a0_0) := (blk_cell BK163.out 0).trans rfl; have hcz20_1 : w16.cell? ⟨gb163, 1, none⟩ = some (.int .i64 a0_1) := (blk_cell BK163.out 1).trans rfl; have hcz20_2 : w16.cell? ⟨gb163, 2, none⟩ = some (.int .i64 a0_2) := (blk_cell BK163.out 2).trans rfl; have hcz20_3 : w16.cell? ⟨gb163, 3, none⟩ = some (.int .i64 a0_3) := (blk_cell BK163.out 3).trans rfl; have hfz20_0 := blk_frozen BK163.out 0; have hfz20_1 := blk_frozen BK163.out 1; have hfz20_2 := blk_frozen BK163.out 2; have hfz20_3 := blk_frozen BK163.out 3; have hcz21_0 : w16.cell? ⟨gb164, 0, none⟩ = some (.int .i64 a2_0) := (blk_cell BK164.out 0).trans rfl; have hcz21_1 : w16.cell? ⟨gb164, 1, none⟩ = some (.int .i64 a2_1) := (blk_cell BK164.out 1).trans rfl; have hcz21_2 : w16.cell? ⟨gb164, 2, none⟩ = some (.int .i64 a2_2) := (blk_cell BK164.out 2).trans rfl; have hfz21_0 := blk_frozen BK164.out 0; have hfz21_1 := blk_frozen BK164.out 1; have hfz21_2 := blk_frozen BK164.out 2) | ((with_reducible refine gate_callee (f := 6) rfl ?_); refine goesL_ (some 30) rfl rfl Try.func6 (by kernel_rfl) rfl #[.agg #[.int .i64 a0_0, .int .i64 a0_1, .int .i64 a0_2, .int .i64 a0_3], .int .i64 a1, .int .i64 a2_0, .int .i64 a2_1] rfl (by (try simp only [List.map_toArray, List.map_cons, List.map_nil]); first | done | rfl | (simp only [List.length_drop, List.length_take]; rfl)) ?_; (with_reducible refine (pochoirref25_Middle.calls k a0_0 a0_1 a0_2 a0_3 a1 a2_0 a2_1 t170 t171 t172 _ A7.out).mono ?_); rintro e w22 ⟨rfl, hb⟩; refine ⟨_, rfl, ?_⟩; have n0_ := Aside0.mk (blk_below (g := gb163) (o := .cells #[.int .i64 a0_0, .int .i64 a0_1, .int .i64 a0_2, .int .i64 a0_3] 23 (0, 0)) (by (with_reducible repeat (first | refine blk_drewN ?_ _ | refine blk_drew ?_ | refine blk_alloc ?_ _)); refine blk_far ?_ NB163_169.out _; (with_reducible repeat (first | refine blk_drewN ?_ _ | refine blk_drew ?_ | refine blk_alloc ?_ _)); refine blk_far ?_ NB163_169.out _; (with_reducible repeat (first | refine blk_drewN ?_ _ | refine blk_drew ?_ | refine blk_alloc ?_ _)); exact BK163.out) hb); have n1_ := Aside0.mk (blk_below (g := gb164) (o := .cells #[.int .i64 a2_0, .int .i64 a2_1, .int .i64 a2_2] 24 (0, 0)) (by (with_reducible repeat (first | refine blk_drewN ?_ _ | refine blk_drew ?_ | refine blk_alloc ?_ _)); refine blk_far ?_ NB164_169.out _; (with_reducible repeat (first | refine blk_drewN ?_ _ | refine blk_drew ?_ | refine blk_alloc ?_ _)); refine blk_far ?_ NB164_169.out _; (with_reducible repeat (first | refine blk_drewN ?_ _ | refine blk_drew ?_ | refine blk_alloc ?_ _)); exact BK164.out) hb); have n2_ := Aside0.mk (blk_below (g := gb169) (o := .cells #[.int .i64 t166, .int .i64 t167] 27 (0, 0)) (by (with_reducible repeat (first | refine blk_drewN ?_ _ | refine blk_drew ?_ | refine blk_alloc ?_ _)); refine blk_put (cs := #[.int .i64 t166, .int .i64 0]) ?_ 1 _ rfl; (with_reducible repeat (first | refine blk_drewN ?_ _ | refine blk_drew ?_ | refine blk_alloc ?_ _)); refine blk_put (cs := #[.int .i64 0, .int .i64 0]) ?_ 0 _ rfl; (with_reducible repeat (first | refine blk_drewN ?_ _ | refine blk_drew ?_ | refine blk_alloc ?_ _)); exact BK169.out) hb); have n3_ := Aside0.mk (below_step (by repeat (first | (with_reducible first | exact HB.out | apply below_alloc | apply pw_below_drewN | apply below_drew1 | refine below_set ?_ GE163.out | refine below_set ?_ GE164.out | refine below_set ?_ GE169.out) | exact HB.out)) hb); clear BK163; clear BK164; clear BK169; clear HB; have BK163 := n0_; have BK164 := n1_; have BK169 := n2_; have HB := n3_; clear n0_ n1_ n2_ n3_; (try clear hb); (try clear hb2); (try clear hk); (try clear hi)) | ((with_reducible refine gate_dst (N := 9) rfl ?_); refine box_event ?hg (N := 9) ?hd (cs := #[.int .i64 0, .int .i64 0]) (t := 27) ?hr ?_; (case hd => rfl); (case hg => rfl); (case hr => first | (go_simp; done) | (go_simp; rfl)); intro gb173 hg w23 hbox hb; have n0_ := Aside0.mk (blk_below (g := gb163) (o := .cells #[.int .i64 a0_0, .int .i64 a0_1, .int .i64 a0_2, .int .i64 a0_3] 23 (0, 0)) (by (with_reducible repeat (first | refine blk_drewN ?_ _ | refine blk_drew ?_ | refine blk_alloc ?_ _)); exact BK163.out) hb); have n1_ := Aside0.mk (blk_below (g := gb164) (o := .cells #[.int .i64 a2_0, .int .i64 a2_1, .int .i64 a2_2] 24 (0, 0)) (by (with_reducible repeat (first | refine blk_drewN ?_ _ | refine blk_drew ?_ | refine blk_alloc ?_ _)); exact BK164.out) hb); have n2_ := Aside0.mk (blk_below (g := gb169) (o := .cells #[.int .i64 t166, .int .i64 t167] 27 (0, 0)) (by (with_reducible repeat (first | refine blk_drewN ?_ _ | refine blk_drew ?_ | refine blk_alloc ?_ _)); exact BK169.out) hb); have n3_ := Aside0.mk (below_step (by repeat (first | (with_reducible first | exact HB.out | apply below_alloc | apply pw_below_drewN | apply below_drew1 | refine below_set ?_ GE163.out | refine below_set ?_ GE164.out | refine below_set ?_ GE169.out) | exact HB.out)) hb); have n4_ := Aside0.mk (hbox); have n5_ := Aside0.mk ((by rw [hg]; exact (below_size (by repeat (first | (with_reducible first | exact HB.out | apply below_alloc | apply pw_below_drewN | apply below_drew1 | refine below_set ?_ GE163.out | refine below_set ?_ GE164.out | refine below_set ?_ GE169.out) | exact HB.out))) : w.heap.size ≤ gb173)); have n6_ := Aside0.mk ((by rw [hg]; exact (below_size (by repeat (first | (with_reducible first | exact HB.out | apply below_alloc | apply pw_below_drewN | apply below_drew1 | refine below_set ?_ GE163.out | refine below_set ?_ GE164.out | refine below_set ?_ GE169.out) | exact HB.out))) : w.heap.size ≤ gb173)); have n7_ := Aside0.mk ((by rw [hg]; exact Nat.ne_of_lt (blk_lt (g := gb163) (o := .cells #[.int .i64 a0_0, .int .i64 a0_1, .int .i64 a0_2, .int .i64 a0_3] 23 (0, 0)) (by (with_reducible repeat (first | refine blk_drewN ?_ _ | refine blk_drew ?_ | refine blk_alloc ?_ _)); exact BK163.out)) : gb163 ≠ gb173)); have n8_ := Aside0.mk ((by rw [hg]; exact Nat.ne_of_gt (blk_lt (g := gb163) (o := .cells #[.int .i64 a0_0, .int .i64 a0_1, .int .i64 a0_2, .int .i64 a0_3] 23 (0, 0)) (by (with_reducible repeat (first | refine blk_drewN ?_ _ | refine blk_drew ?_ | refine blk_alloc ?_ _)); exact BK163.out)) : gb173 ≠ gb163)); have n9_ := Aside0.mk ((by rw [hg]; exact Nat.ne_of_lt (blk_lt (g := gb164) (o := .cells #[.int .i64 a2_0, .int .i64 a2_1, .int .i64 a2_2] 24 (0, 0)) (by (with_reducible repeat (first | refine blk_drewN ?_ _ | refine blk_drew ?_ | refine blk_alloc ?_ _)); exact BK164.out)) : gb164 ≠ gb173)); have n10_ := Aside0.mk ((by rw [hg]; exact Nat.ne_of_gt (blk_lt (g := gb164) (o := .cells #[.int .i64 a2_0, .int .i64 a2_1, .int .i64 a2_2] 24 (0, 0)) (by (with_reducible repeat (first | refine blk_drewN ?_ _ | refine blk_drew ?_ | refine blk_alloc ?_ _)); exact BK164.out)) : gb173 ≠ gb164)); have n11_ := Aside0.mk ((by rw [hg]; exact Nat.ne_of_lt (blk_lt (g := gb169) (o := .cells #[.int .i64 t166, .int .i64 t167] 27 (0, 0)) (by (with_reducible repeat (first | refine blk_drewN ?_ _ | refine blk_drew ?_ | refine blk_alloc ?_ _)); exact BK169.out)) : gb169 ≠ gb173)); have n12_ := Aside0.mk ((by rw [hg]; exact Nat.ne_of_gt (blk_lt (g := gb169) (o := .cells #[.int .i64 t166, .int .i64 t167] 27 (0, 0)) (by (with_reducible repeat (first | refine blk_drewN ?_ _ | refine blk_drew ?_ | refine blk_alloc ?_ _)); exact BK169.out)) : gb173 ≠ gb169)); clear BK163; clear BK164; clear BK169; clear HB; have BK163 := n0_; have BK164 := n1_; have BK169 := n2_; have HB := n3_; have BK173 := n4_; have GW173 := n5_; have GE173 := n6_; have NB163_173 := n7_; have NB173_163 := n8_; have NB164_173 := n9_; have NB173_164 := n10_; have NB169_173 := n11_; have NB173_169 := n12_; clear n0_ n1_ n2_ n3_ n4_ n5_ n6_ n7_ n8_ n9_ n10_ n11_ n12_; clear hb hbox hg; have hnb24 := NB173_163.out; have hnc24 := NB163_173.out; have hnb25 := NB173_164.out; have hnc25 := NB164_173.out; have hnb26 := NB173_169.out; have hnc26 := NB169_173.out; have hcz27_0 : w23.cell? ⟨gb173, 0, none⟩ = some (.int .i64 0) := (blk_cell BK173.out 0).trans rfl; have hcz27_1 : w23.cell? ⟨gb173, 1, none⟩ = some (.int .i64 0) := (blk_cell BK173.out 1).trans rfl; have hfz27_0 := blk_frozen BK173.out 0; have hfz27_1 := blk_frozen BK173.out 1))
      have n0_ : Aside0 (((w23.setCell ⟨gb173, 0, none⟩ (.int .i64 t170)).setCell ⟨gb173, 1, none⟩ (.int .i64 t171)).heap[gb163]? = some (.cells #[.int .i64 a0_0, .int .i64 a0_1, .int .i64 a0_2, .int .i64 a0_3] 23 (0, 0))) := ⟨by (with_reducible repeat (first | refine blk_drewN ?_ _ | refine blk_drew ?_ | refine blk_alloc ?_ _)); refine blk_far ?_ NB163_173.out _; (with_reducible repeat (first | refine blk_drewN ?_ _ | refine blk_drew ?_ | refine blk_alloc ?_ _)); refine blk_far ?_ NB163_173.out _; (with_reducible repeat (first | refine blk_drewN ?_ _ | refine blk_drew ?_ | refine blk_alloc ?_ _)); exact BK163.out⟩
      have n1_ : Aside0 (((w23.setCell ⟨gb173, 0, none⟩ (.int .i64 t170)).setCell ⟨gb173, 1, none⟩ (.int .i64 t171)).heap[gb164]? = some (.cells #[.int .i64 a2_0, .int .i64 a2_1, .int .i64 a2_2] 24 (0, 0))) := ⟨by (with_reducible repeat (first | refine blk_drewN ?_ _ | refine blk_drew ?_ | refine blk_alloc ?_ _)); refine blk_far ?_ NB164_173.out _; (with_reducible repeat (first | refine blk_drewN ?_ _ | refine blk_drew ?_ | refine blk_alloc ?_ _)); refine blk_far ?_ NB164_173.out _; (with_reducible repeat (first | refine blk_drewN ?_ _ | refine blk_drew ?_ | refine blk_alloc ?_ _)); exact BK164.out⟩
      have n2_ : Aside0 (((w23.setCell ⟨gb173, 0, none⟩ (.int .i64 t170)).setCell ⟨gb173, 1, none⟩ (.int .i64 t171)).heap[gb169]? = some (.cells #[.int .i64 t166, .int .i64 t167] 27 (0, 0))) := ⟨by (with_reducible repeat (first | refine blk_drewN ?_ _ | refine blk_drew ?_ | refine blk_alloc ?_ _)); refine blk_far ?_ NB169_173.out _; (with_reducible repeat (first | refine blk_drewN ?_ _ | refine blk_drew ?_ | refine blk_alloc ?_ _)); refine blk_far ?_ NB169_173.out _; (with_reducible repeat (first | refine blk_drewN ?_ _ | refine blk_drew ?_ | refine blk_alloc ?_ _)); exact BK169.out⟩
      have n3_ : Aside0 (((w23.setCell ⟨gb173, 0, none⟩ (.int .i64 t170)).setCell ⟨gb173, 1, none⟩ (.int .i64 t171)).heap[gb173]? = some (.cells #[.int .i64 t170, .int .i64 t171] 27 (0, 0))) := ⟨by (with_reducible repeat (first | refine blk_drewN ?_ _ | refine blk_drew ?_ | refine blk_alloc ?_ _)); refine blk_put (cs := #[.int .i64 t170, .int .i64 0]) ?_ 1 _ rfl; (with_reducible repeat (first | refine blk_drewN ?_ _ | refine blk_drew ?_ | refine blk_alloc ?_ _)); refine blk_put (cs := #[.int .i64 0, .int .i64 0]) ?_ 0 _ rfl; (with_reducible repeat (first | refine blk_drewN ?_ _ | refine blk_drew ?_ | refine blk_alloc ?_ _)); exact BK173.out⟩
      have n4_ : Aside0 (Below w.heap.size w ((w23.setCell ⟨gb173, 0, none⟩ (.int .i64 t170)).setCell ⟨gb173, 1, none⟩ (.int .i64 t171))) := ⟨by repeat (first | (with_reducible first | exact HB.out | apply below_alloc | apply pw_below_drewN | apply below_drew1 | refine below_set ?_ GE163.out | refine below_set ?_ GE164.out | refine below_set ?_ GE169.out | refine below_set ?_ GE173.out) | exact HB.out)⟩
      (try clear BK163)
      (try clear BK164)
      (try clear BK169)
      (try clear BK173)
      (try clear HB)
      generalize ((w23.setCell ⟨gb173, 0, none⟩ (.int .i64 t170)).setCell ⟨gb173, 1, none⟩ (.int .i64 t171)) = w28 at n0_ n1_ n2_ n3_ n4_ ⊢
      have BK163 := n0_
      have BK164 := n1_
      have BK169 := n2_
      have BK173 := n3_
      have HB := n4_
      clear n0_ n1_ n2_ n3_ n4_
      have n0_ := Aside0.mk (blk_drew BK163.out)
      have n1_ := Aside0.mk (blk_drew BK164.out)
      have n2_ := Aside0.mk (blk_drew BK169.out)
      have n3_ := Aside0.mk (blk_drew BK173.out)
      have n4_ := Aside0.mk (below_drew1 HB.out)
      clear BK163
      clear BK164
      clear BK169
      clear BK173
      clear HB
      have BK163 := n0_
      have BK164 := n1_
      have BK169 := n2_
      have BK173 := n3_
      have HB := n4_
      clear n0_ n1_ n2_ n3_ n4_
      refine start_ (n := 15) (S := fun w' => w'.cell? ⟨gb169, 0, none⟩ = some (.int .i64 t166) ∧ w'.cell? ⟨gb169, 1, none⟩ = some (.int .i64 t167) ∧ w'.cell? ⟨gb173, 0, none⟩ = some (.int .i64 t170) ∧ w'.cell? ⟨gb173, 1, none⟩ = some (.int .i64 t171)) (ds := []) #[false, false, false, false, false, false, false, false, false, false, false, false, false, false, false] (by kernel_rfl) rfl rfl ⟨(blk_cell BK169.out 0).trans rfl, (blk_cell BK169.out 1).trans rfl, (blk_cell BK173.out 0).trans rfl, (blk_cell BK173.out 1).trans rfl⟩ (fun hHeld => ?_); refine with_tabW pochoirlaw25_CellMiddles.tab5 pochoirlaw25_CellMiddles.bits5 (fun HT_ HW_ => ?_)
      generalize w28.drew = w29 at BK163 BK164 BK169 BK173 HB hHeld ⊢
      refine take_ (i := 0) (N := some 33) (v := ?_) (a' := ?_) #[true, false, false, false, false, false, false, false, false, false, false, false, false, false, false] rfl rfl (take_ofW HT_.out HW_.out (by kernel_rfl)) (fun _ _ _ h => h) (Or.inl ⟨by rfl, ?_⟩) hHeld ?_ ?_
      rotate_left
      · rintro w' ⟨s0, s1, s2, s3⟩
        go_simp
        with_reducible rfl
      rotate_left
      · simp only [Act.put, List.setIfInBounds_toArray, List.set_cons_zero, List.set_cons_succ, i64_w, i32_w]
        rfl
      refine take_ (i := 1) (N := some 34) (v := ?_) (a' := ?_) #[true, true, false, false, false, false, false, false, false, false, false, false, false, false, false] rfl rfl (take_ofW HT_.out HW_.out (by kernel_rfl)) (fun _ _ _ h => h) (Or.inl ⟨by rfl, ?_⟩) hHeld ?_ ?_
      rotate_left
      · rintro w' ⟨s0, s1, s2, s3⟩
        go_simp
        with_reducible rfl
      rotate_left
      · simp only [Act.put, List.setIfInBounds_toArray, List.set_cons_zero, List.set_cons_succ, i64_w, i32_w]
        rfl
      refine pure_ (i := 2) (N := some 35) (v := ?_) (a' := ?_) #[true, true, true, false, false, false, false, false, false, false, false, false, false, false, false] rfl rfl (any_of HT_.out (by kernel_rfl)) (fun _ _ _ h => h) (Or.inl ⟨by rfl, ?_⟩) ?_ ?_
      rotate_left
      · intro w'
        go_simp
        with_reducible rfl
      rotate_left
      · simp only [Act.put, List.setIfInBounds_toArray, List.set_cons_zero, List.set_cons_succ, i64_w, i32_w]
        rfl
      refine pure_ (i := 3) (N := some 36) (v := ?_) (a' := ?_) #[true, true, true, true, false, false, false, false, false, false, false, false, false, false, false] rfl rfl (any_of HT_.out (by kernel_rfl)) (fun _ _ _ h => h) (Or.inl ⟨by rfl, ?_⟩) ?_ ?_
      rotate_left
      · intro w'
        go_simp
        with_reducible rfl
      rotate_left
      · simp only [Act.put, List.setIfInBounds_toArray, List.set_cons_zero, List.set_cons_succ, i64_w, i32_w]
        rfl
      refine pure_ (i := 4) (N := some 37) (v := undef) (a' := ?_) #[true, true, true, true, true, false, false, false, false, false, false, false, false, false, false] rfl rfl (any_of HT_.out (by kernel_rfl)) (fun _ _ _ h => h) (Or.inr ⟨by rfl, rfl⟩) ?_ ?_
      rotate_left
      · simp only [Act.put, List.setIfInBounds_toArray, List.set_cons_zero, List.set_cons_succ, i64_w, i32_w]
        rfl
      refine pure_ (i := 5) (N := some 38) (v := undef) (a' := ?_) #[true, true, true, true, true, true, false, false, false, false, false, false, false, false, false] rfl rfl (any_of HT_.out (by kernel_rfl)) (fun _ _ _ h => h) (Or.inr ⟨by rfl, rfl⟩) ?_ ?_
      rotate_left
      · simp only [Act.put, List.setIfInBounds_toArray, List.set_cons_zero, List.set_cons_succ, i64_w, i32_w]
        rfl
      refine pure_ (i := 6) (N := some 39) (v := undef) (a' := ?_) #[true, true, true, true, true, true, true, false, false, false, false, false, false, false, false] rfl rfl (any_of HT_.out (by kernel_rfl)) (fun _ _ _ h => h) (Or.inr ⟨by rfl, rfl⟩) ?_ ?_
      rotate_left
      · simp only [Act.put, List.setIfInBounds_toArray, List.set_cons_zero, List.set_cons_succ, i64_w, i32_w]
        rfl
      refine pure_ (i := 7) (N := some 40) (v := ?_) (a' := ?_) #[true, true, true, true, true, true, true, true, false, false, false, false, false, false, false] rfl rfl (any_of HT_.out (by kernel_rfl)) (fun _ _ _ h => h) (Or.inl ⟨by rfl, ?_⟩) ?_ ?_
      rotate_left
      · intro w'
        go_simp
        with_reducible rfl
      rotate_left
      · simp only [Act.put, List.setIfInBounds_toArray, List.set_cons_zero, List.set_cons_succ, i64_w, i32_w]
        rfl
      refine pure_ (i := 8) (N := some 41) (v := ?_) (a' := ?_) #[true, true, true, true, true, true, true, true, true, false, false, false, false, false, false] rfl rfl (any_of HT_.out (by kernel_rfl)) (fun _ _ _ h => h) (Or.inl ⟨by rfl, ?_⟩) ?_ ?_
      rotate_left
      · intro w'
        go_simp
        with_reducible rfl
      rotate_left
      · simp only [Act.put, List.setIfInBounds_toArray, List.set_cons_zero, List.set_cons_succ, i64_w, i32_w]
        rfl
      refine pure_ (i := 9) (N := some 42) (v := undef) (a' := ?_) #[true, true, true, true, true, true, true, true, true, true, false, false, false, false, false] rfl rfl (any_of HT_.out (by kernel_rfl)) (fun _ _ _ h => h) (Or.inr ⟨by rfl, rfl⟩) ?_ ?_
      rotate_left
      · simp only [Act.put, List.setIfInBounds_toArray, List.set_cons_zero, List.set_cons_succ, i64_w, i32_w]
        rfl
      refine pure_ (i := 10) (N := some 43) (v := undef) (a' := ?_) #[true, true, true, true, true, true, true, true, true, true, true, false, false, false, false] rfl rfl (any_of HT_.out (by kernel_rfl)) (fun _ _ _ h => h) (Or.inr ⟨by rfl, rfl⟩) ?_ ?_
      rotate_left
      · simp only [Act.put, List.setIfInBounds_toArray, List.set_cons_zero, List.set_cons_succ, i64_w, i32_w]
        rfl
      refine pure_ (i := 11) (N := some 44) (v := undef) (a' := ?_) #[true, true, true, true, true, true, true, true, true, true, true, true, false, false, false] rfl rfl (any_of HT_.out (by kernel_rfl)) (fun _ _ _ h => h) (Or.inr ⟨by rfl, rfl⟩) ?_ ?_
      rotate_left
      · simp only [Act.put, List.setIfInBounds_toArray, List.set_cons_zero, List.set_cons_succ, i64_w, i32_w]
        rfl
      refine pure_ (i := 12) (N := some 45) (v := undef) (a' := ?_) #[true, true, true, true, true, true, true, true, true, true, true, true, true, false, false] rfl rfl (any_of HT_.out (by kernel_rfl)) (fun _ _ _ h => h) (Or.inr ⟨by rfl, rfl⟩) ?_ ?_
      rotate_left
      · simp only [Act.put, List.setIfInBounds_toArray, List.set_cons_zero, List.set_cons_succ, i64_w, i32_w]
        rfl
      refine pure_ (i := 13) (N := some 46) (v := undef) (a' := ?_) #[true, true, true, true, true, true, true, true, true, true, true, true, true, true, false] rfl rfl (any_of HT_.out (by kernel_rfl)) (fun _ _ _ h => h) (Or.inr ⟨by rfl, rfl⟩) ?_ ?_
      rotate_left
      · simp only [Act.put, List.setIfInBounds_toArray, List.set_cons_zero, List.set_cons_succ, i64_w, i32_w]
        rfl
      refine pure_ (i := 14) (N := some 47) (v := ?_) (a' := ?_) #[true, true, true, true, true, true, true, true, true, true, true, true, true, true, true] rfl rfl (any_of HT_.out (by kernel_rfl)) (fun _ _ _ h => h) (Or.inl ⟨by rfl, ?_⟩) ?_ ?_
      rotate_left
      · intro w'
        go_simp
        with_reducible rfl
      rotate_left
      · simp only [Act.put, List.setIfInBounds_toArray, List.set_cons_zero, List.set_cons_succ, i64_w, i32_w]
        rfl
      refine done_ (done_of HT_.out (by kernel_rfl)) ?_
      try go_wp2
      go_ret
      exact ⟨by first | rfl | (simp [errW_none, errW_some] <;> rfl) | (simp [*, errW_none, errW_some] <;> rfl), by repeat (first | (with_reducible first | exact HB.out | apply below_alloc | apply pw_below_drewN | apply below_drew1 | refine below_set ?_ GE163.out | refine below_set ?_ GE164.out | refine below_set ?_ GE169.out | refine below_set ?_ GE173.out) | exact HB.out)⟩
    · rw [if_neg c8] at H
      have c8b0 : (!(t166 == t170) || (!(t167 == t171))) = false := by simpa using c8
      clear c8
      by_cases c30 : t168 = t172
      · rw [if_pos c30] at H
        have c30b0 : (t168 == t172) = true := beq_iff_eq.mpr c30
        have c30b1 : (t168 != t172) = false := bne_eq_false_iff_eq.mpr c30
        clear c30
        replace H := Option.bind_eq_some_iff.mp H
        obtain ⟨t174, A310, H⟩ := H
        replace H : ((pochoirref25_May.f a0_0 a0_1 a0_2 a0_3).bind fun t175 => (if (t174 != t175) = true then (some false) else ((pochoirlaw25_told.f a0_0 a0_1 a0_2 a0_3 a1 (mn (mx a2_2 0) 1000)).bind fun t176 => (some t176)))) = some r := H
        have A31 := Aside0.mk A310
        clear A310
        replace H := Option.bind_eq_some_iff.mp H
        obtain ⟨t175, A320, H⟩ := H
        replace H : (if (t174 != t175) = true then (some false) else ((pochoirlaw25_told.f a0_0 a0_1 a0_2 a0_3 a1 (mn (mx a2_2 0) 1000)).bind fun t176 => (some t176))) = some r := H
        have A32 := Aside0.mk A320
        clear A320
        by_cases c33 : (t174 != t175) = true
        · rw [if_pos c33] at H
          have c33b0 : (t174 != t175) = true := c33
          (try (have c33b1 : decide (t174 = t175) = false := by simpa using c33))
          (try (have c33b2 : (t174 == t175) = false := by simpa using c33))
          (try (have c33b3 : ¬ (t174 = t175) := by simpa using c33))
          clear c33
          obtain rfl := Option.some.inj H
          go_enter Try.func3, Try.ntmps3
          try go_wp2_with (first | ((with_reducible refine gate_dst (N := 3) rfl ?_); refine box_event ?hg (N := 3) ?hd (cs := #[.int .i64 a0_0, .int .i64 a0_1, .int .i64 a0_2, .int .i64 a0_3]) (t := 23) ?hr ?_; (case hd => rfl); (case hg => rfl); (case hr => first | (go_simp; done) | (go_simp; rfl)); intro gb163 hg w34 hbox hb; have n0_ := Aside0.mk (below_step (by repeat (first | (with_reducible first | exact HB.out | apply below_alloc | apply pw_below_drewN | apply below_drew1) | exact HB.out)) hb); have n1_ := Aside0.mk (hbox); have n2_ := Aside0.mk ((by rw [hg]; exact (below_size (by repeat (first | (with_reducible first | exact HB.out | apply below_alloc | apply pw_below_drewN | apply below_drew1) | exact HB.out))) : w.heap.size ≤ gb163)); have n3_ := Aside0.mk ((by rw [hg]; exact (below_size (by repeat (first | (with_reducible first | exact HB.out | apply below_alloc | apply pw_below_drewN | apply below_drew1) | exact HB.out))) : w.heap.size ≤ gb163)); clear HB; have HB := n0_; have BK163 := n1_; have GW163 := n2_; have GE163 := n3_; clear n0_ n1_ n2_ n3_; clear hb hbox hg) | ((with_reducible refine gate_dst (N := 5) rfl ?_); refine box_event ?hg (N := 5) ?hd (cs := #[.int .i64 a2_0, .int .i64 a2_1, .int .i64 a2_2]) (t := 24) ?hr ?_; (case hd => rfl); (case hg => rfl); (case hr => first | (go_simp; done) | (go_simp; rfl)); intro gb164 hg w35 hbox hb; have n0_ := Aside0.mk (blk_below (g := gb163) (o := .cells #[.int .i64 a0_0, .int .i64 a0_1, .int .i64 a0_2, .int .i64 a0_3] 23 (0, 0)) (by (with_reducible repeat (first | refine blk_drewN ?_ _ | refine blk_drew ?_ | refine blk_alloc ?_ _)); exact BK163.out) hb); have n1_ := Aside0.mk (below_step (by repeat (first | (with_reducible first | exact HB.out | apply below_alloc | apply pw_below_drewN | apply below_drew1 | refine below_set ?_ GE163.out) | exact HB.out)) hb); have n2_ := Aside0.mk (hbox); have n3_ := Aside0.mk ((by rw [hg]; exact (below_size (by repeat (first | (with_reducible first | exact HB.out | apply below_alloc | apply pw_below_drewN | apply below_drew1 | refine below_set ?_ GE163.out) | exact HB.out))) : w.heap.size ≤ gb164)); have n4_ := Aside0.mk ((by rw [hg]; exact (below_size (by repeat (first | (with_reducible first | exact HB.out | apply below_alloc | apply pw_below_drewN | apply below_drew1 | refine below_set ?_ GE163.out) | exact HB.out))) : w.heap.size ≤ gb164)); have n5_ := Aside0.mk ((by rw [hg]; exact Nat.ne_of_lt (blk_lt (g := gb163) (o := .cells #[.int .i64 a0_0, .int .i64 a0_1, .int .i64 a0_2, .int .i64 a0_3] 23 (0, 0)) (by (with_reducible repeat (first | refine blk_drewN ?_ _ | refine blk_drew ?_ | refine blk_alloc ?_ _)); exact BK163.out)) : gb163 ≠ gb164)); have n6_ := Aside0.mk ((by rw [hg]; exact Nat.ne_of_gt (blk_lt (g := gb163) (o := .cells #[.int .i64 a0_0, .int .i64 a0_1, .int .i64 a0_2, .int .i64 a0_3] 23 (0, 0)) (by (with_reducible repeat (first | refine blk_drewN ?_ _ | refine blk_drew ?_ | refine blk_alloc ?_ _)); exact BK163.out)) : gb164 ≠ gb163)); clear BK163; clear HB; have BK163 := n0_; have HB := n1_; have BK164 := n2_; have GW164 := n3_; have GE164 := n4_; have NB163_164 := n5_; have NB164_163 := n6_; clear n0_ n1_ n2_ n3_ n4_ n5_ n6_; clear hb hbox hg) | ((with_reducible refine gate_callee (f := 4) rfl ?_); refine goesL_ (some 11) rfl rfl Try.func4 (by kernel_rfl) rfl #[] rfl (by (try simp only [List.map_toArray, List.map_cons, List.map_nil]); first | done | rfl | (simp only [List.length_drop, List.length_take]; rfl)) ?_; (with_reducible refine (pochoirlaw25_awake.calls k  true _ A4.out).mono ?_); rintro e w36 ⟨rfl, hb⟩; refine ⟨_, rfl, ?_⟩; have n0_ := Aside0.mk (blk_below (g := gb163) (o := .cells #[.int .i64 a0_0, .int .i64 a0_1, .int .i64 a0_2, .int .i64 a0_3] 23 (0, 0)) (by (with_reducible repeat (first | refine blk_drewN ?_ _ | refine blk_drew ?_ | refine blk_alloc ?_ _)); exact BK163.out) hb); have n1_ := Aside0.mk (blk_below (g := gb164) (o := .cells #[.int .i64 a2_0, .int .i64 a2_1, .int .i64 a2_2] 24 (0, 0)) (by (with_reducible repeat (first | refine blk_drewN ?_ _ | refine blk_drew ?_ | refine blk_alloc ?_ _)); exact BK164.out) hb); have n2_ := Aside0.mk (below_step (by repeat (first | (with_reducible first | exact HB.out | apply below_alloc | apply pw_below_drewN | apply below_drew1 | refine below_set ?_ GE163.out | refine below_set ?_ GE164.out) | exact HB.out)) hb); clear BK163; clear BK164; clear HB; have BK163 := n0_; have BK164 := n1_; have HB := n2_; clear n0_ n1_ n2_; (try clear hb); (try clear hb2); (try clear hk); (try clear hi); have hnb37 := NB163_164.out; have hnc37 := NB164_163.out; have hcz38_0 : w36.cell? ⟨gb163, 0, none⟩ = some (.int .i64 a0_0) := (blk_cell BK163.out 0).trans rfl; have hcz38_1 : w36.cell? ⟨gb163, 1, none⟩ = some (.int .i64 a0_1) := (blk_cell BK163.out 1).trans rfl; have hcz38_2 : w36.cell? ⟨gb163, 2, none⟩ = some (.int .i64 a0_2) := (blk_cell BK163.out 2).trans rfl; have hcz38_3 : w36.cell? ⟨gb163, 3, none⟩ = some (.int .i64 a0_3) := (blk_cell BK163.out 3).trans rfl; have hfz38_0 := blk_frozen BK163.out 0; have hfz38_1 := blk_frozen BK163.out 1; have hfz38_2 := blk_frozen BK163.out 2; have hfz38_3 := blk_frozen BK163.out 3; have hcz39_0 : w36.cell? ⟨gb164, 0, none⟩ = some (.int .i64 a2_0) := (blk_cell BK164.out 0).trans rfl; have hcz39_1 : w36.cell? ⟨gb164, 1, none⟩ = some (.int .i64 a2_1) := (blk_cell BK164.out 1).trans rfl; have hcz39_2 : w36.cell? ⟨gb164, 2, none⟩ = some (.int .i64 a2_2) := (blk_cell BK164.out 2).trans rfl; have hfz39_0 := blk_frozen BK164.out 0; have hfz39_1 := blk_frozen BK164.out 1; have hfz39_2 := blk_frozen BK164.out 2) | ((with_reducible refine gate_callee (f := 5) rfl ?_); refine goesL_ (some 20) rfl rfl Try.func5 (by kernel_rfl) rfl #[.agg #[.int .i64 a0_0, .int .i64 a0_1, .int .i64 a0_2, .int .i64 a0_3], .int .i64 a1, .int .i64 a2_0, .int .i64 a2_1] rfl (by (try simp only [List.map_toArray, List.map_cons, List.map_nil]); first | done | rfl | (simp only [List.length_drop, List.length_take]; rfl)) ?_; (with_reducible refine (cell_Middle.calls k a0_0 a0_1 a0_2 a0_3 a1 a2_0 a2_1 t166 t167 t168 _ A6.out).mono ?_); rintro e w40 ⟨rfl, hb⟩; refine ⟨_, rfl, ?_⟩; have n0_ := Aside0.mk (blk_below (g := gb163) (o := .cells #[.int .i64 a0_0, .int .i64 a0_1, .int .i64 a0_2, .int .i64 a0_3] 23 (0, 0)) (by (with_reducible repeat (first | refine blk_drewN ?_ _ | refine blk_drew ?_ | refine blk_alloc ?_ _)); exact BK163.out) hb); have n1_ := Aside0.mk (blk_below (g := gb164) (o := .cells #[.int .i64 a2_0, .int .i64 a2_1, .int .i64 a2_2] 24 (0, 0)) (by (with_reducible repeat (first | refine blk_drewN ?_ _ | refine blk_drew ?_ | refine blk_alloc ?_ _)); exact BK164.out) hb); have n2_ := Aside0.mk (below_step (by repeat (first | (with_reducible first | exact HB.out | apply below_alloc | apply pw_below_drewN | apply below_drew1 | refine below_set ?_ GE163.out | refine below_set ?_ GE164.out) | exact HB.out)) hb); clear BK163; clear BK164; clear HB; have BK163 := n0_; have BK164 := n1_; have HB := n2_; clear n0_ n1_ n2_; (try clear hb); (try clear hb2); (try clear hk); (try clear hi)) | ((with_reducible refine gate_dst (N := 7) rfl ?_); refine box_event ?hg (N := 7) ?hd (cs := #[.int .i64 0, .int .i64 0]) (t := 27) ?hr ?_; (case hd => rfl); (case hg => rfl); (case hr => first | (go_simp; done) | (go_simp; rfl)); intro gb169 hg w41 hbox hb; have n0_ := Aside0.mk (blk_below (g := gb163) (o := .cells #[.int .i64 a0_0, .int .i64 a0_1, .int .i64 a0_2, .int .i64 a0_3] 23 (0, 0)) (by (with_reducible repeat (first | refine blk_drewN ?_ _ | refine blk_drew ?_ | refine blk_alloc ?_ _)); exact BK163.out) hb); have n1_ := Aside0.mk (blk_below (g := gb164) (o := .cells #[.int .i64 a2_0, .int .i64 a2_1, .int .i64 a2_2] 24 (0, 0)) (by (with_reducible repeat (first | refine blk_drewN ?_ _ | refine blk_drew ?_ | refine blk_alloc ?_ _)); exact BK164.out) hb); have n2_ := Aside0.mk (below_step (by repeat (first | (with_reducible first | exact HB.out | apply below_alloc | apply pw_below_drewN | apply below_drew1 | refine below_set ?_ GE163.out | refine below_set ?_ GE164.out) | exact HB.out)) hb); have n3_ := Aside0.mk (hbox); have n4_ := Aside0.mk ((by rw [hg]; exact (below_size (by repeat (first | (with_reducible first | exact HB.out | apply below_alloc | apply pw_below_drewN | apply below_drew1 | refine below_set ?_ GE163.out | refine below_set ?_ GE164.out) | exact HB.out))) : w.heap.size ≤ gb169)); have n5_ := Aside0.mk ((by rw [hg]; exact (below_size (by repeat (first | (with_reducible first | exact HB.out | apply below_alloc | apply pw_below_drewN | apply below_drew1 | refine below_set ?_ GE163.out | refine below_set ?_ GE164.out) | exact HB.out))) : w.heap.size ≤ gb169)); have n6_ := Aside0.mk ((by rw [hg]; exact Nat.ne_of_lt (blk_lt (g := gb163) (o := .cells #[.int .i64 a0_0, .int .i64 a0_1, .int .i64 a0_2, .int .i64 a0_3] 23 (0, 0)) (by (with_reducible repeat (first | refine blk_drewN ?_ _ | refine blk_drew ?_ | refine blk_alloc ?_ _)); exact BK163.out)) : gb163 ≠ gb169)); have n7_ := Aside0.mk ((by rw [hg]; exact Nat.ne_of_gt (blk_lt (g := gb163) (o := .cells #[.int .i64 a0_0, .int .i64 a0_1, .int .i64 a0_2, .int .i64 a0_3] 23 (0, 0)) (by (with_reducible repeat (first | refine blk_drewN ?_ _ | refine blk_drew ?_ | refine blk_alloc ?_ _)); exact BK163.out)) : gb169 ≠ gb163)); have n8_ := Aside0.mk ((by rw [hg]; exact Nat.ne_of_lt (blk_lt (g := gb164) (o := .cells #[.int .i64 a2_0, .int .i64 a2_1, .int .i64 a2_2] 24 (0, 0)) (by (with_reducible repeat (first | refine blk_drewN ?_ _ | refine blk_drew ?_ | refine blk_alloc ?_ _)); exact BK164.out)) : gb164 ≠ gb169)); have n9_ := Aside0.mk ((by rw [hg]; exact Nat.ne_of_gt (blk_lt (g := gb164) (o := .cells #[.int .i64 a2_0, .int .i64 a2_1, .int .i64 a2_2] 24 (0, 0)) (by (with_reducible repeat (first | refine blk_drewN ?_ _ | refine blk_drew ?_ | refine blk_alloc ?_ _)); exact BK164.out)) : gb169 ≠ gb164)); clear BK163; clear BK164; clear HB; have BK163 := n0_; have BK164 := n1_; have HB := n2_; have BK169 := n3_; have GW169 := n4_; have GE169 := n5_; have NB163_169 := n6_; have NB169_163 := n7_; have NB164_169 := n8_; have NB169_164 := n9_; clear n0_ n1_ n2_ n3_ n4_ n5_ n6_ n7_ n8_ n9_; clear hb hbox hg; have hnb42 := NB169_163.out; have hnc42 := NB163_169.out; have hnb43 := NB169_164.out; have hnc43 := NB164_169.out; have hcz44_0 : w41.cell? ⟨gb169, 0, none⟩ = some (.int .i64 0) := (blk_cell BK169.out 0).trans rfl; have hcz44_1 : w41.cell? ⟨gb169, 1, none⟩ = some (.int .i64 0) := (blk_cell BK169.out 1).trans rfl; have hfz44_0 := blk_frozen BK169.out 0; have hfz44_1 := blk_frozen BK169.out 1; have hcz45_0 : w41.cell? ⟨gb163, 0, none⟩ = some (.int .i64 a0_0) := (blk_cell BK163.out 0).trans rfl; have hcz45_1 : w41.cell? ⟨gb163, 1, none⟩ = some (.int .i64 a0_1) := (blk_cell BK163.out 1).trans rfl; have hcz45_2 : w41.cell? ⟨gb163, 2, none⟩ = some (.int .i64 a0_2) := (blk_cell BK163.out 2).trans rfl; have hcz45_3 : w41.cell? ⟨gb163, 3, none⟩ = some (.int .i64 a0_3) := (blk_cell BK163.out 3).trans rfl; have hfz45_0 := blk_frozen BK163.out 0; have hfz45_1 := blk_frozen BK163.out 1; have hfz45_2 := blk_frozen BK163.out 2; have hfz45_3 := blk_frozen BK163.out 3; have hcz46_0 : w41.cell? ⟨gb164, 0, none⟩ = some (.int .i64 a2_0) := (blk_cell BK164.out 0).trans rfl; have hcz46_1 : w41.cell? ⟨gb164, 1, none⟩ = some (.int .i64 a2_1) := (blk_cell BK164.out 1).trans rfl; have hcz46_2 : w41.cell? ⟨gb164, 2, none⟩ = some (.int .i64 a2_2) := (blk_cell BK164.out 2).trans rfl; have hfz46_0 := blk_frozen BK164.out 0; have hfz46_1 := blk_frozen BK164.out 1; have hfz46_2 := blk_frozen BK164.out 2) | ((with_reducible refine gate_callee (f := 6) rfl ?_); refine goesL_ (some 30) rfl rfl Try.func6 (by kernel_rfl) rfl #[.agg #[.int .i64 a0_0, .int .i64 a0_1, .int .i64 a0_2, .int .i64 a0_3], .int .i64 a1, .int .i64 a2_0, .int .i64 a2_1] rfl (by (try simp only [List.map_toArray, List.map_cons, List.map_nil]); first | done | rfl | (simp only [List.length_drop, List.length_take]; rfl)) ?_; (with_reducible refine (pochoirref25_Middle.calls k a0_0 a0_1 a0_2 a0_3 a1 a2_0 a2_1 t170 t171 t172 _ A7.out).mono ?_); rintro e w47 ⟨rfl, hb⟩; refine ⟨_, rfl, ?_⟩; have n0_ := Aside0.mk (blk_below (g := gb163) (o := .cells #[.int .i64 a0_0, .int .i64 a0_1, .int .i64 a0_2, .int .i64 a0_3] 23 (0, 0)) (by (with_reducible repeat (first | refine blk_drewN ?_ _ | refine blk_drew ?_ | refine blk_alloc ?_ _)); refine blk_far ?_ NB163_169.out _; (with_reducible repeat (first | refine blk_drewN ?_ _ | refine blk_drew ?_ | refine blk_alloc ?_ _)); refine blk_far ?_ NB163_169.out _; (with_reducible repeat (first | refine blk_drewN ?_ _ | refine blk_drew ?_ | refine blk_alloc ?_ _)); exact BK163.out) hb); have n1_ := Aside0.mk (blk_below (g := gb164) (o := .cells #[.int .i64 a2_0, .int .i64 a2_1, .int .i64 a2_2] 24 (0, 0)) (by (with_reducible repeat (first | refine blk_drewN ?_ _ | refine blk_drew ?_ | refine blk_alloc ?_ _)); refine blk_far ?_ NB164_169.out _; (with_reducible repeat (first | refine blk_drewN ?_ _ | refine blk_drew ?_ | refine blk_alloc ?_ _)); refine blk_far ?_ NB164_169.out _; (with_reducible repeat (first | refine blk_drewN ?_ _ | refine blk_drew ?_ | refine blk_alloc ?_ _)); exact BK164.out) hb); have n2_ := Aside0.mk (blk_below (g := gb169) (o := .cells #[.int .i64 t166, .int .i64 t167] 27 (0, 0)) (by (with_reducible repeat (first | refine blk_drewN ?_ _ | refine blk_drew ?_ | refine blk_alloc ?_ _)); refine blk_put (cs := #[.int .i64 t166, .int .i64 0]) ?_ 1 _ rfl; (with_reducible repeat (first | refine blk_drewN ?_ _ | refine blk_drew ?_ | refine blk_alloc ?_ _)); refine blk_put (cs := #[.int .i64 0, .int .i64 0]) ?_ 0 _ rfl; (with_reducible repeat (first | refine blk_drewN ?_ _ | refine blk_drew ?_ | refine blk_alloc ?_ _)); exact BK169.out) hb); have n3_ := Aside0.mk (below_step (by repeat (first | (with_reducible first | exact HB.out | apply below_alloc | apply pw_below_drewN | apply below_drew1 | refine below_set ?_ GE163.out | refine below_set ?_ GE164.out | refine below_set ?_ GE169.out) | exact HB.out)) hb); clear BK163; clear BK164; clear BK169; clear HB; have BK163 := n0_; have BK164 := n1_; have BK169 := n2_; have HB := n3_; clear n0_ n1_ n2_ n3_; (try clear hb); (try clear hb2); (try clear hk); (try clear hi)) | ((with_reducible refine gate_dst (N := 9) rfl ?_); refine box_event ?hg (N := 9) ?hd (cs := #[.int .i64 0, .int .i64 0]) (t := 27) ?hr ?_; (case hd => rfl); (case hg => rfl); (case hr => first | (go_simp; done) | (go_simp; rfl)); intro gb173 hg w48 hbox hb; have n0_ := Aside0.mk (blk_below (g := gb163) (o := .cells #[.int .i64 a0_0, .int .i64 a0_1, .int .i64 a0_2, .int .i64 a0_3] 23 (0, 0)) (by (with_reducible repeat (first | refine blk_drewN ?_ _ | refine blk_drew ?_ | refine blk_alloc ?_ _)); exact BK163.out) hb); have n1_ := Aside0.mk (blk_below (g := gb164) (o := .cells #[.int .i64 a2_0, .int .i64 a2_1, .int .i64 a2_2] 24 (0, 0)) (by (with_reducible repeat (first | refine blk_drewN ?_ _ | refine blk_drew ?_ | refine blk_alloc ?_ _)); exact BK164.out) hb); have n2_ := Aside0.mk (blk_below (g := gb169) (o := .cells #[.int .i64 t166, .int .i64 t167] 27 (0, 0)) (by (with_reducible repeat (first | refine blk_drewN ?_ _ | refine blk_drew ?_ | refine blk_alloc ?_ _)); exact BK169.out) hb); have n3_ := Aside0.mk (below_step (by repeat (first | (with_reducible first | exact HB.out | apply below_alloc | apply pw_below_drewN | apply below_drew1 | refine below_set ?_ GE163.out | refine below_set ?_ GE164.out | refine below_set ?_ GE169.out) | exact HB.out)) hb); have n4_ := Aside0.mk (hbox); have n5_ := Aside0.mk ((by rw [hg]; exact (below_size (by repeat (first | (with_reducible first | exact HB.out | apply below_alloc | apply pw_below_drewN | apply below_drew1 | refine below_set ?_ GE163.out | refine below_set ?_ GE164.out | refine below_set ?_ GE169.out) | exact HB.out))) : w.heap.size ≤ gb173)); have n6_ := Aside0.mk ((by rw [hg]; exact (below_size (by repeat (first | (with_reducible first | exact HB.out | apply below_alloc | apply pw_below_drewN | apply below_drew1 | refine below_set ?_ GE163.out | refine below_set ?_ GE164.out | refine below_set ?_ GE169.out) | exact HB.out))) : w.heap.size ≤ gb173)); have n7_ := Aside0.mk ((by rw [hg]; exact Nat.ne_of_lt (blk_lt (g := gb163) (o := .cells #[.int .i64 a0_0, .int .i64 a0_1, .int .i64 a0_2, .int .i64 a0_3] 23 (0, 0)) (by (with_reducible repeat (first | refine blk_drewN ?_ _ | refine blk_drew ?_ | refine blk_alloc ?_ _)); exact BK163.out)) : gb163 ≠ gb173)); have n8_ := Aside0.mk ((by rw [hg]; exact Nat.ne_of_gt (blk_lt (g := gb163) (o := .cells #[.int .i64 a0_0, .int .i64 a0_1, .int .i64 a0_2, .int .i64 a0_3] 23 (0, 0)) (by (with_reducible repeat (first | refine blk_drewN ?_ _ | refine blk_drew ?_ | refine blk_alloc ?_ _)); exact BK163.out)) : gb173 ≠ gb163)); have n9_ := Aside0.mk ((by rw [hg]; exact Nat.ne_of_lt (blk_lt (g := gb164) (o := .cells #[.int .i64 a2_0, .int .i64 a2_1, .int .i64 a2_2] 24 (0, 0)) (by (with_reducible repeat (first | refine blk_drewN ?_ _ | refine blk_drew ?_ | refine blk_alloc ?_ _)); exact BK164.out)) : gb164 ≠ gb173)); have n10_ := Aside0.mk ((by rw [hg]; exact Nat.ne_of_gt (blk_lt (g := gb164) (o := .cells #[.int .i64 a2_0, .int .i64 a2_1, .int .i64 a2_2] 24 (0, 0)) (by (with_reducible repeat (first | refine blk_drewN ?_ _ | refine blk_drew ?_ | refine blk_alloc ?_ _)); exact BK164.out)) : gb173 ≠ gb164)); have n11_ := Aside0.mk ((by rw [hg]; exact Nat.ne_of_lt (blk_lt (g := gb169) (o := .cells #[.int .i64 t166, .int .i64 t167] 27 (0, 0)) (by (with_reducible repeat (first | refine blk_drewN ?_ _ | refine blk_drew ?_ | refine blk_alloc ?_ _)); exact BK169.out)) : gb169 ≠ gb173)); have n12_ := Aside0.mk ((by rw [hg]; exact Nat.ne_of_gt (blk_lt (g := gb169) (o := .cells #[.int .i64 t166, .int .i64 t167] 27 (0, 0)) (by (with_reducible repeat (first | refine blk_drewN ?_ _ | refine blk_drew ?_ | refine blk_alloc ?_ _)); exact BK169.out)) : gb173 ≠ gb169)); clear BK163; clear BK164; clear BK169; clear HB; have BK163 := n0_; have BK164 := n1_; have BK169 := n2_; have HB := n3_; have BK173 := n4_; have GW173 := n5_; have GE173 := n6_; have NB163_173 := n7_; have NB173_163 := n8_; have NB164_173 := n9_; have NB173_164 := n10_; have NB169_173 := n11_; have NB173_169 := n12_; clear n0_ n1_ n2_ n3_ n4_ n5_ n6_ n7_ n8_ n9_ n10_ n11_ n12_; clear hb hbox hg; have hnb49 := NB173_163.out; have hnc49 := NB163_173.out; have hnb50 := NB173_164.out; have hnc50 := NB164_173.out; have hnb51 := NB173_169.out; have hnc51 := NB169_173.out; have hcz52_0 : w48.cell? ⟨gb173, 0, none⟩ = some (.int .i64 0) := (blk_cell BK173.out 0).trans rfl; have hcz52_1 : w48.cell? ⟨gb173, 1, none⟩ = some (.int .i64 0) := (blk_cell BK173.out 1).trans rfl; have hfz52_0 := blk_frozen BK173.out 0; have hfz52_1 := blk_frozen BK173.out 1))
          have n0_ : Aside0 (((w48.setCell ⟨gb173, 0, none⟩ (.int .i64 t170)).setCell ⟨gb173, 1, none⟩ (.int .i64 t171)).heap[gb163]? = some (.cells #[.int .i64 a0_0, .int .i64 a0_1, .int .i64 a0_2, .int .i64 a0_3] 23 (0, 0))) := ⟨by (with_reducible repeat (first | refine blk_drewN ?_ _ | refine blk_drew ?_ | refine blk_alloc ?_ _)); refine blk_far ?_ NB163_173.out _; (with_reducible repeat (first | refine blk_drewN ?_ _ | refine blk_drew ?_ | refine blk_alloc ?_ _)); refine blk_far ?_ NB163_173.out _; (with_reducible repeat (first | refine blk_drewN ?_ _ | refine blk_drew ?_ | refine blk_alloc ?_ _)); exact BK163.out⟩
          have n1_ : Aside0 (((w48.setCell ⟨gb173, 0, none⟩ (.int .i64 t170)).setCell ⟨gb173, 1, none⟩ (.int .i64 t171)).heap[gb164]? = some (.cells #[.int .i64 a2_0, .int .i64 a2_1, .int .i64 a2_2] 24 (0, 0))) := ⟨by (with_reducible repeat (first | refine blk_drewN ?_ _ | refine blk_drew ?_ | refine blk_alloc ?_ _)); refine blk_far ?_ NB164_173.out _; (with_reducible repeat (first | refine blk_drewN ?_ _ | refine blk_drew ?_ | refine blk_alloc ?_ _)); refine blk_far ?_ NB164_173.out _; (with_reducible repeat (first | refine blk_drewN ?_ _ | refine blk_drew ?_ | refine blk_alloc ?_ _)); exact BK164.out⟩
          have n2_ : Aside0 (((w48.setCell ⟨gb173, 0, none⟩ (.int .i64 t170)).setCell ⟨gb173, 1, none⟩ (.int .i64 t171)).heap[gb169]? = some (.cells #[.int .i64 t166, .int .i64 t167] 27 (0, 0))) := ⟨by (with_reducible repeat (first | refine blk_drewN ?_ _ | refine blk_drew ?_ | refine blk_alloc ?_ _)); refine blk_far ?_ NB169_173.out _; (with_reducible repeat (first | refine blk_drewN ?_ _ | refine blk_drew ?_ | refine blk_alloc ?_ _)); refine blk_far ?_ NB169_173.out _; (with_reducible repeat (first | refine blk_drewN ?_ _ | refine blk_drew ?_ | refine blk_alloc ?_ _)); exact BK169.out⟩
          have n3_ : Aside0 (((w48.setCell ⟨gb173, 0, none⟩ (.int .i64 t170)).setCell ⟨gb173, 1, none⟩ (.int .i64 t171)).heap[gb173]? = some (.cells #[.int .i64 t170, .int .i64 t171] 27 (0, 0))) := ⟨by (with_reducible repeat (first | refine blk_drewN ?_ _ | refine blk_drew ?_ | refine blk_alloc ?_ _)); refine blk_put (cs := #[.int .i64 t170, .int .i64 0]) ?_ 1 _ rfl; (with_reducible repeat (first | refine blk_drewN ?_ _ | refine blk_drew ?_ | refine blk_alloc ?_ _)); refine blk_put (cs := #[.int .i64 0, .int .i64 0]) ?_ 0 _ rfl; (with_reducible repeat (first | refine blk_drewN ?_ _ | refine blk_drew ?_ | refine blk_alloc ?_ _)); exact BK173.out⟩
          have n4_ : Aside0 (Below w.heap.size w ((w48.setCell ⟨gb173, 0, none⟩ (.int .i64 t170)).setCell ⟨gb173, 1, none⟩ (.int .i64 t171))) := ⟨by repeat (first | (with_reducible first | exact HB.out | apply below_alloc | apply pw_below_drewN | apply below_drew1 | refine below_set ?_ GE163.out | refine below_set ?_ GE164.out | refine below_set ?_ GE169.out | refine below_set ?_ GE173.out) | exact HB.out)⟩
          (try clear BK163)
          (try clear BK164)
          (try clear BK169)
          (try clear BK173)
          (try clear HB)
          generalize ((w48.setCell ⟨gb173, 0, none⟩ (.int .i64 t170)).setCell ⟨gb173, 1, none⟩ (.int .i64 t171)) = w53 at n0_ n1_ n2_ n3_ n4_ ⊢
          have BK163 := n0_
          have BK164 := n1_
          have BK169 := n2_
          have BK173 := n3_
          have HB := n4_
          clear n0_ n1_ n2_ n3_ n4_
          have n0_ := Aside0.mk (blk_drew BK163.out)
          have n1_ := Aside0.mk (blk_drew BK164.out)
          have n2_ := Aside0.mk (blk_drew BK169.out)
          have n3_ := Aside0.mk (blk_drew BK173.out)
          have n4_ := Aside0.mk (below_drew1 HB.out)
          clear BK163
          clear BK164
          clear BK169
          clear BK173
          clear HB
          have BK163 := n0_
          have BK164 := n1_
          have BK169 := n2_
          have BK173 := n3_
          have HB := n4_
          clear n0_ n1_ n2_ n3_ n4_
          refine start_ (n := 15) (S := fun w' => w'.cell? ⟨gb169, 0, none⟩ = some (.int .i64 t166) ∧ w'.cell? ⟨gb169, 1, none⟩ = some (.int .i64 t167) ∧ w'.cell? ⟨gb173, 0, none⟩ = some (.int .i64 t170) ∧ w'.cell? ⟨gb173, 1, none⟩ = some (.int .i64 t171) ∧ w'.cell? ⟨gb163, 0, none⟩ = some (.int .i64 a0_0) ∧ w'.cell? ⟨gb163, 1, none⟩ = some (.int .i64 a0_1) ∧ w'.cell? ⟨gb163, 2, none⟩ = some (.int .i64 a0_2) ∧ w'.cell? ⟨gb163, 3, none⟩ = some (.int .i64 a0_3)) (ds := []) #[false, false, false, false, false, false, false, false, false, false, false, false, false, false, false] (by kernel_rfl) rfl rfl ⟨(blk_cell BK169.out 0).trans rfl, (blk_cell BK169.out 1).trans rfl, (blk_cell BK173.out 0).trans rfl, (blk_cell BK173.out 1).trans rfl, (blk_cell BK163.out 0).trans rfl, (blk_cell BK163.out 1).trans rfl, (blk_cell BK163.out 2).trans rfl, (blk_cell BK163.out 3).trans rfl⟩ (fun hHeld => ?_); refine with_tabW pochoirlaw25_CellMiddles.tab5 pochoirlaw25_CellMiddles.bits5 (fun HT_ HW_ => ?_)
          generalize w53.drew = w54 at BK163 BK164 BK169 BK173 HB hHeld ⊢
          refine take_ (i := 0) (N := some 33) (v := ?_) (a' := ?_) #[true, false, false, false, false, false, false, false, false, false, false, false, false, false, false] rfl rfl (take_ofW HT_.out HW_.out (by kernel_rfl)) (fun _ _ _ h => h) (Or.inl ⟨by rfl, ?_⟩) hHeld ?_ ?_
          rotate_left
          · rintro w' ⟨s0, s1, s2, s3, s4, s5, s6, s7⟩
            go_simp
            with_reducible rfl
          rotate_left
          · simp only [Act.put, List.setIfInBounds_toArray, List.set_cons_zero, List.set_cons_succ, i64_w, i32_w]
            rfl
          refine take_ (i := 1) (N := some 34) (v := ?_) (a' := ?_) #[true, true, false, false, false, false, false, false, false, false, false, false, false, false, false] rfl rfl (take_ofW HT_.out HW_.out (by kernel_rfl)) (fun _ _ _ h => h) (Or.inl ⟨by rfl, ?_⟩) hHeld ?_ ?_
          rotate_left
          · rintro w' ⟨s0, s1, s2, s3, s4, s5, s6, s7⟩
            go_simp
            with_reducible rfl
          rotate_left
          · simp only [Act.put, List.setIfInBounds_toArray, List.set_cons_zero, List.set_cons_succ, i64_w, i32_w]
            rfl
          refine pure_ (i := 2) (N := some 35) (v := ?_) (a' := ?_) #[true, true, true, false, false, false, false, false, false, false, false, false, false, false, false] rfl rfl (any_of HT_.out (by kernel_rfl)) (fun _ _ _ h => h) (Or.inl ⟨by rfl, ?_⟩) ?_ ?_
          rotate_left
          · intro w'
            go_simp
            with_reducible rfl
          rotate_left
          · simp only [Act.put, List.setIfInBounds_toArray, List.set_cons_zero, List.set_cons_succ, i64_w, i32_w]
            rfl
          refine pure_ (i := 3) (N := some 36) (v := ?_) (a' := ?_) #[true, true, true, true, false, false, false, false, false, false, false, false, false, false, false] rfl rfl (any_of HT_.out (by kernel_rfl)) (fun _ _ _ h => h) (Or.inl ⟨by rfl, ?_⟩) ?_ ?_
          rotate_left
          · intro w'
            go_simp
            with_reducible rfl
          rotate_left
          · simp only [Act.put, List.setIfInBounds_toArray, List.set_cons_zero, List.set_cons_succ, i64_w, i32_w]
            rfl
          refine pure_ (i := 4) (N := some 37) (v := ?_) (a' := ?_) #[true, true, true, true, true, false, false, false, false, false, false, false, false, false, false] rfl rfl (any_of HT_.out (by kernel_rfl)) (fun _ _ _ h => h) (Or.inl ⟨by rfl, ?_⟩) ?_ ?_
          rotate_left
          · intro w'
            go_simp
            with_reducible rfl
          rotate_left
          · simp only [Act.put, List.setIfInBounds_toArray, List.set_cons_zero, List.set_cons_succ, i64_w, i32_w]
            rfl
          refine pure_ (i := 5) (N := some 38) (v := ?_) (a' := ?_) #[true, true, true, true, true, true, false, false, false, false, false, false, false, false, false] rfl rfl (any_of HT_.out (by kernel_rfl)) (fun _ _ _ h => h) (Or.inl ⟨by rfl, ?_⟩) ?_ ?_
          rotate_left
          · intro w'
            go_simp
            with_reducible rfl
          rotate_left
          · simp only [Act.put, List.setIfInBounds_toArray, List.set_cons_zero, List.set_cons_succ, i64_w, i32_w]
            rfl
          refine pure_ (i := 6) (N := some 39) (v := ?_) (a' := ?_) #[true, true, true, true, true, true, true, false, false, false, false, false, false, false, false] rfl rfl (any_of HT_.out (by kernel_rfl)) (fun _ _ _ h => h) (Or.inl ⟨by rfl, ?_⟩) ?_ ?_
          rotate_left
          · intro w'
            go_simp
            with_reducible rfl
          rotate_left
          · simp only [Act.put, List.setIfInBounds_toArray, List.set_cons_zero, List.set_cons_succ, i64_w, i32_w]
            rfl
          refine pure_ (i := 7) (N := some 40) (v := ?_) (a' := ?_) #[true, true, true, true, true, true, true, true, false, false, false, false, false, false, false] rfl rfl (any_of HT_.out (by kernel_rfl)) (fun _ _ _ h => h) (Or.inl ⟨by rfl, ?_⟩) ?_ ?_
          rotate_left
          · intro w'
            go_simp
            with_reducible rfl
          rotate_left
          · simp only [Act.put, List.setIfInBounds_toArray, List.set_cons_zero, List.set_cons_succ, i64_w, i32_w]
            rfl
          refine pure_ (i := 8) (N := some 41) (v := ?_) (a' := ?_) #[true, true, true, true, true, true, true, true, true, false, false, false, false, false, false] rfl rfl (any_of HT_.out (by kernel_rfl)) (fun _ _ _ h => h) (Or.inl ⟨by rfl, ?_⟩) ?_ ?_
          rotate_left
          · intro w'
            go_simp
            with_reducible rfl
          rotate_left
          · simp only [Act.put, List.setIfInBounds_toArray, List.set_cons_zero, List.set_cons_succ, i64_w, i32_w]
            rfl
          refine take_ (i := 9) (N := some 42) (v := ?_) (a' := ?_) #[true, true, true, true, true, true, true, true, true, true, false, false, false, false, false] rfl rfl (take_ofW HT_.out HW_.out (by kernel_rfl)) (fun _ _ _ h => h) (Or.inl ⟨by rfl, ?_⟩) hHeld ?_ ?_
          rotate_left
          · rintro w' ⟨s0, s1, s2, s3, s4, s5, s6, s7⟩
            go_simp
            with_reducible rfl
          rotate_left
          · simp only [Act.put, List.setIfInBounds_toArray, List.set_cons_zero, List.set_cons_succ, i64_w, i32_w]
            rfl
          refine take_ (i := 11) (N := some 44) (v := ?_) (a' := ?_) #[true, true, true, true, true, true, true, true, true, true, false, true, false, false, false] rfl rfl (take_ofW HT_.out HW_.out (by kernel_rfl)) (fun _ _ _ h => h) (Or.inl ⟨by rfl, ?_⟩) hHeld ?_ ?_
          rotate_left
          · rintro w' ⟨s0, s1, s2, s3, s4, s5, s6, s7⟩
            go_simp
            with_reducible rfl
          rotate_left
          · simp only [Act.put, List.setIfInBounds_toArray, List.set_cons_zero, List.set_cons_succ, i64_w, i32_w]
            rfl
          refine one_ (i := 10) (N := some 43) #[true, true, true, true, true, true, true, true, true, true, true, true, false, false, false] rfl rfl (one_of HT_.out (by kernel_rfl)) (by decide) (fun K hK => ?_)
          refine goes_ Try.func7 (by kernel_rfl) rfl #[.agg #[.int .i64 a0_0, .int .i64 a0_1, .int .i64 a0_2, .int .i64 a0_3]] (by rfl) rfl rfl (by (try simp only [List.map_toArray, List.map_cons, List.map_nil]); first | done | rfl | (simp only [List.length_drop, List.length_take]; rfl)) ?_
          with_reducible refine (cell_May.calls a0_0 a0_1 a0_2 a0_3 t174 _ A31.out).mono ?_
          rintro e w55 ⟨rfl, hb⟩
          refine ⟨_, rfl, ?_⟩
          have n0_ := Aside0.mk (blk_below (g := gb163) (o := .cells #[.int .i64 a0_0, .int .i64 a0_1, .int .i64 a0_2, .int .i64 a0_3] 23 (0, 0)) (by (with_reducible repeat (first | refine blk_drewN ?_ _ | refine blk_drew ?_ | refine blk_alloc ?_ _)); exact BK163.out) hb)
          have n1_ := Aside0.mk (blk_below (g := gb164) (o := .cells #[.int .i64 a2_0, .int .i64 a2_1, .int .i64 a2_2] 24 (0, 0)) (by (with_reducible repeat (first | refine blk_drewN ?_ _ | refine blk_drew ?_ | refine blk_alloc ?_ _)); exact BK164.out) hb)
          have n2_ := Aside0.mk (blk_below (g := gb169) (o := .cells #[.int .i64 t166, .int .i64 t167] 27 (0, 0)) (by (with_reducible repeat (first | refine blk_drewN ?_ _ | refine blk_drew ?_ | refine blk_alloc ?_ _)); exact BK169.out) hb)
          have n3_ := Aside0.mk (blk_below (g := gb173) (o := .cells #[.int .i64 t170, .int .i64 t171] 27 (0, 0)) (by (with_reducible repeat (first | refine blk_drewN ?_ _ | refine blk_drew ?_ | refine blk_alloc ?_ _)); exact BK173.out) hb)
          have n4_ := Aside0.mk (below_step (by repeat (first | (with_reducible first | exact HB.out | apply below_alloc | apply pw_below_drewN | apply below_drew1 | refine below_set ?_ GE163.out | refine below_set ?_ GE164.out | refine below_set ?_ GE169.out | refine below_set ?_ GE173.out) | exact HB.out)) hb)
          clear BK163
          clear BK164
          clear BK169
          clear BK173
          clear HB
          have BK163 := n0_
          have BK164 := n1_
          have BK169 := n2_
          have BK173 := n3_
          have HB := n4_
          clear n0_ n1_ n2_ n3_ n4_
          (try clear hb)
          (try clear hb2)
          (try clear hk)
          (try clear hi)
          refine hK.out _ _ ⟨(blk_cell BK169.out 0).trans rfl, (blk_cell BK169.out 1).trans rfl, (blk_cell BK173.out 0).trans rfl, (blk_cell BK173.out 1).trans rfl, (blk_cell BK163.out 0).trans rfl, (blk_cell BK163.out 1).trans rfl, (blk_cell BK163.out 2).trans rfl, (blk_cell BK163.out 3).trans rfl⟩ (fun hHeld => ?_)
          clear hK K
          refine norm_ (a' := ?_) ?_ ?_
          rotate_left
          · show Act.put _ (some 43) _ = _
            simp only [Act.put, List.setIfInBounds_toArray, List.set_cons_zero, List.set_cons_succ, i64_w, i32_w]
            rfl
          refine one_ (i := 12) (N := some 45) #[true, true, true, true, true, true, true, true, true, true, true, true, true, false, false] rfl rfl (one_of HT_.out (by kernel_rfl)) (by decide) (fun K hK => ?_)
          refine goes_ Try.func8 (by kernel_rfl) rfl #[.agg #[.int .i64 a0_0, .int .i64 a0_1, .int .i64 a0_2, .int .i64 a0_3]] (by rfl) rfl rfl (by (try simp only [List.map_toArray, List.map_cons, List.map_nil]); first | done | rfl | (simp only [List.length_drop, List.length_take]; rfl)) ?_
          with_reducible refine (pochoirref25_May.calls a0_0 a0_1 a0_2 a0_3 t175 _ A32.out).mono ?_
          rintro e w56 ⟨rfl, hb⟩
          refine ⟨_, rfl, ?_⟩
          have n0_ := Aside0.mk (blk_below (g := gb163) (o := .cells #[.int .i64 a0_0, .int .i64 a0_1, .int .i64 a0_2, .int .i64 a0_3] 23 (0, 0)) (by (with_reducible repeat (first | refine blk_drewN ?_ _ | refine blk_drew ?_ | refine blk_alloc ?_ _)); exact BK163.out) hb)
          have n1_ := Aside0.mk (blk_below (g := gb164) (o := .cells #[.int .i64 a2_0, .int .i64 a2_1, .int .i64 a2_2] 24 (0, 0)) (by (with_reducible repeat (first | refine blk_drewN ?_ _ | refine blk_drew ?_ | refine blk_alloc ?_ _)); exact BK164.out) hb)
          have n2_ := Aside0.mk (blk_below (g := gb169) (o := .cells #[.int .i64 t166, .int .i64 t167] 27 (0, 0)) (by (with_reducible repeat (first | refine blk_drewN ?_ _ | refine blk_drew ?_ | refine blk_alloc ?_ _)); exact BK169.out) hb)
          have n3_ := Aside0.mk (blk_below (g := gb173) (o := .cells #[.int .i64 t170, .int .i64 t171] 27 (0, 0)) (by (with_reducible repeat (first | refine blk_drewN ?_ _ | refine blk_drew ?_ | refine blk_alloc ?_ _)); exact BK173.out) hb)
          have n4_ := Aside0.mk (below_step (by repeat (first | (with_reducible first | exact HB.out | apply below_alloc | apply pw_below_drewN | apply below_drew1 | refine below_set ?_ GE163.out | refine below_set ?_ GE164.out | refine below_set ?_ GE169.out | refine below_set ?_ GE173.out) | exact HB.out)) hb)
          clear BK163
          clear BK164
          clear BK169
          clear BK173
          clear HB
          have BK163 := n0_
          have BK164 := n1_
          have BK169 := n2_
          have BK173 := n3_
          have HB := n4_
          clear n0_ n1_ n2_ n3_ n4_
          (try clear hb)
          (try clear hb2)
          (try clear hk)
          (try clear hi)
          refine hK.out _ _ ⟨(blk_cell BK169.out 0).trans rfl, (blk_cell BK169.out 1).trans rfl, (blk_cell BK173.out 0).trans rfl, (blk_cell BK173.out 1).trans rfl, (blk_cell BK163.out 0).trans rfl, (blk_cell BK163.out 1).trans rfl, (blk_cell BK163.out 2).trans rfl, (blk_cell BK163.out 3).trans rfl⟩ (fun hHeld => ?_)
          clear hK K
          refine norm_ (a' := ?_) ?_ ?_
          rotate_left
          · show Act.put _ (some 45) _ = _
            simp only [Act.put, List.setIfInBounds_toArray, List.set_cons_zero, List.set_cons_succ, i64_w, i32_w]
            rfl
          refine pure_ (i := 13) (N := some 46) (v := ?_) (a' := ?_) #[true, true, true, true, true, true, true, true, true, true, true, true, true, true, false] rfl rfl (any_of HT_.out (by kernel_rfl)) (fun _ _ _ h => h) (Or.inl ⟨by rfl, ?_⟩) ?_ ?_
          rotate_left
          · intro w'
            go_simp
            with_reducible rfl
          rotate_left
          · simp only [Act.put, List.setIfInBounds_toArray, List.set_cons_zero, List.set_cons_succ, i64_w, i32_w]
            rfl
          refine pure_ (i := 14) (N := some 47) (v := ?_) (a' := ?_) #[true, true, true, true, true, true, true, true, true, true, true, true, true, true, true] rfl rfl (any_of HT_.out (by kernel_rfl)) (fun _ _ _ h => h) (Or.inl ⟨by rfl, ?_⟩) ?_ ?_
          rotate_left
          · intro w'
            go_simp
            with_reducible rfl
          rotate_left
          · simp only [Act.put, List.setIfInBounds_toArray, List.set_cons_zero, List.set_cons_succ, i64_w, i32_w]
            rfl
          refine done_ (done_of HT_.out (by kernel_rfl)) ?_
          try go_wp2
          go_ret
          exact ⟨by first | rfl | (simp [errW_none, errW_some] <;> rfl) | (simp [*, errW_none, errW_some] <;> rfl), by repeat (first | (with_reducible first | exact HB.out | apply below_alloc | apply pw_below_drewN | apply below_drew1 | refine below_set ?_ GE163.out | refine below_set ?_ GE164.out | refine below_set ?_ GE169.out | refine below_set ?_ GE173.out) | exact HB.out)⟩
        · rw [if_neg c33] at H
          have c33b0 : (t174 != t175) = false := by simpa using c33
          (try (have c33b1 : decide (t174 = t175) = true := by simpa using c33))
          (try (have c33b2 : (t174 == t175) = true := by simpa using c33))
          clear c33
          obtain ⟨ji57, hji57⟩ : ∃ j_ : Int, (mx a2_2 0) = j_ := ⟨_, rfl⟩
          replace H : ((pochoirlaw25_told.f a0_0 a0_1 a0_2 a0_3 a1 (mn (ji57) 1000)).bind fun t176 => (some t176)) = some r := by first | (rw [hji57] at H; exact H) | (simp only [hji57] at H ⊢; exact H)
          (try rw [hji57] at A4)
          (try rw [hji57] at A6)
          (try rw [hji57] at A7)
          (try rw [hji57] at A31)
          (try rw [hji57] at A32)
          (try (have hji57l : 0 ≤ ji57 := by (rw [← hji57]; unfold mx; (repeat' split) <;> omega)))
          (try (have hji57m : 0 ≤ ji57 := by omega))
          have hji57_ : (if a2_2 < 0 then 0 else a2_2) = ji57 := hji57
          obtain ⟨ji58, hji58⟩ : ∃ j_ : Int, (mn (ji57) 1000) = j_ := ⟨_, rfl⟩
          replace H : ((pochoirlaw25_told.f a0_0 a0_1 a0_2 a0_3 a1 (ji58)).bind fun t176 => (some t176)) = some r := by first | (rw [hji58] at H; exact H) | (simp only [hji58] at H ⊢; exact H)
          (try rw [hji58] at A4)
          (try rw [hji58] at A6)
          (try rw [hji58] at A7)
          (try rw [hji58] at A31)
          (try rw [hji58] at A32)
          have hji58_ : (if 1000 < (ji57) then 1000 else (ji57)) = ji58 := hji58
          replace H := Option.bind_eq_some_iff.mp H
          obtain ⟨t176, A590, H⟩ := H
          replace H : (some t176) = some r := H
          have A59 := Aside0.mk A590
          clear A590
          obtain rfl := Option.some.inj H
          go_enter Try.func3, Try.ntmps3
          try go_wp2_with (first | ((with_reducible refine gate_dst (N := 3) rfl ?_); refine box_event ?hg (N := 3) ?hd (cs := #[.int .i64 a0_0, .int .i64 a0_1, .int .i64 a0_2, .int .i64 a0_3]) (t := 23) ?hr ?_; (case hd => rfl); (case hg => rfl); (case hr => first | (go_simp; done) | (go_simp; rfl)); intro gb163 hg w60 hbox hb; have n0_ := Aside0.mk (below_step (by repeat (first | (with_reducible first | exact HB.out | apply below_alloc | apply pw_below_drewN | apply below_drew1) | exact HB.out)) hb); have n1_ := Aside0.mk (hbox); have n2_ := Aside0.mk ((by rw [hg]; exact (below_size (by repeat (first | (with_reducible first | exact HB.out | apply below_alloc | apply pw_below_drewN | apply below_drew1) | exact HB.out))) : w.heap.size ≤ gb163)); have n3_ := Aside0.mk ((by rw [hg]; exact (below_size (by repeat (first | (with_reducible first | exact HB.out | apply below_alloc | apply pw_below_drewN | apply below_drew1) | exact HB.out))) : w.heap.size ≤ gb163)); clear HB; have HB := n0_; have BK163 := n1_; have GW163 := n2_; have GE163 := n3_; clear n0_ n1_ n2_ n3_; clear hb hbox hg) | ((with_reducible refine gate_dst (N := 5) rfl ?_); refine box_event ?hg (N := 5) ?hd (cs := #[.int .i64 a2_0, .int .i64 a2_1, .int .i64 a2_2]) (t := 24) ?hr ?_; (case hd => rfl); (case hg => rfl); (case hr => first | (go_simp; done) | (go_simp; rfl)); intro gb164 hg w61 hbox hb; have n0_ := Aside0.mk (blk_below (g := gb163) (o := .cells #[.int .i64 a0_0, .int .i64 a0_1, .int .i64 a0_2, .int .i64 a0_3] 23 (0, 0)) (by (with_reducible repeat (first | refine blk_drewN ?_ _ | refine blk_drew ?_ | refine blk_alloc ?_ _)); exact BK163.out) hb); have n1_ := Aside0.mk (below_step (by repeat (first | (with_reducible first | exact HB.out | apply below_alloc | apply pw_below_drewN | apply below_drew1 | refine below_set ?_ GE163.out) | exact HB.out)) hb); have n2_ := Aside0.mk (hbox); have n3_ := Aside0.mk ((by rw [hg]; exact (below_size (by repeat (first | (with_reducible first | exact HB.out | apply below_alloc | apply pw_below_drewN | apply below_drew1 | refine below_set ?_ GE163.out) | exact HB.out))) : w.heap.size ≤ gb164)); have n4_ := Aside0.mk ((by rw [hg]; exact (below_size (by repeat (first | (with_reducible first | exact HB.out | apply below_alloc | apply pw_below_drewN | apply below_drew1 | refine below_set ?_ GE163.out) | exact HB.out))) : w.heap.size ≤ gb164)); have n5_ := Aside0.mk ((by rw [hg]; exact Nat.ne_of_lt (blk_lt (g := gb163) (o := .cells #[.int .i64 a0_0, .int .i64 a0_1, .int .i64 a0_2, .int .i64 a0_3] 23 (0, 0)) (by (with_reducible repeat (first | refine blk_drewN ?_ _ | refine blk_drew ?_ | refine blk_alloc ?_ _)); exact BK163.out)) : gb163 ≠ gb164)); have n6_ := Aside0.mk ((by rw [hg]; exact Nat.ne_of_gt (blk_lt (g := gb163) (o := .cells #[.int .i64 a0_0, .int .i64 a0_1, .int .i64 a0_2, .int .i64 a0_3] 23 (0, 0)) (by (with_reducible repeat (first | refine blk_drewN ?_ _ | refine blk_drew ?_ | refine blk_alloc ?_ _)); exact BK163.out)) : gb164 ≠ gb163)); clear BK163; clear HB; have BK163 := n0_; have HB := n1_; have BK164 := n2_; have GW164 := n3_; have GE164 := n4_; have NB163_164 := n5_; have NB164_163 := n6_; clear n0_ n1_ n2_ n3_ n4_ n5_ n6_; clear hb hbox hg) | ((with_reducible refine gate_callee (f := 4) rfl ?_); refine goesL_ (some 11) rfl rfl Try.func4 (by kernel_rfl) rfl #[] rfl (by (try simp only [List.map_toArray, List.map_cons, List.map_nil]); first | done | rfl | (simp only [List.length_drop, List.length_take]; rfl)) ?_; (with_reducible refine (pochoirlaw25_awake.calls k  true _ A4.out).mono ?_); rintro e w62 ⟨rfl, hb⟩; refine ⟨_, rfl, ?_⟩; have n0_ := Aside0.mk (blk_below (g := gb163) (o := .cells #[.int .i64 a0_0, .int .i64 a0_1, .int .i64 a0_2, .int .i64 a0_3] 23 (0, 0)) (by (with_reducible repeat (first | refine blk_drewN ?_ _ | refine blk_drew ?_ | refine blk_alloc ?_ _)); exact BK163.out) hb); have n1_ := Aside0.mk (blk_below (g := gb164) (o := .cells #[.int .i64 a2_0, .int .i64 a2_1, .int .i64 a2_2] 24 (0, 0)) (by (with_reducible repeat (first | refine blk_drewN ?_ _ | refine blk_drew ?_ | refine blk_alloc ?_ _)); exact BK164.out) hb); have n2_ := Aside0.mk (below_step (by repeat (first | (with_reducible first | exact HB.out | apply below_alloc | apply pw_below_drewN | apply below_drew1 | refine below_set ?_ GE163.out | refine below_set ?_ GE164.out) | exact HB.out)) hb); clear BK163; clear BK164; clear HB; have BK163 := n0_; have BK164 := n1_; have HB := n2_; clear n0_ n1_ n2_; (try clear hb); (try clear hb2); (try clear hk); (try clear hi); have hnb63 := NB163_164.out; have hnc63 := NB164_163.out; have hcz64_0 : w62.cell? ⟨gb163, 0, none⟩ = some (.int .i64 a0_0) := (blk_cell BK163.out 0).trans rfl; have hcz64_1 : w62.cell? ⟨gb163, 1, none⟩ = some (.int .i64 a0_1) := (blk_cell BK163.out 1).trans rfl; have hcz64_2 : w62.cell? ⟨gb163, 2, none⟩ = some (.int .i64 a0_2) := (blk_cell BK163.out 2).trans rfl; have hcz64_3 : w62.cell? ⟨gb163, 3, none⟩ = some (.int .i64 a0_3) := (blk_cell BK163.out 3).trans rfl; have hfz64_0 := blk_frozen BK163.out 0; have hfz64_1 := blk_frozen BK163.out 1; have hfz64_2 := blk_frozen BK163.out 2; have hfz64_3 := blk_frozen BK163.out 3; have hcz65_0 : w62.cell? ⟨gb164, 0, none⟩ = some (.int .i64 a2_0) := (blk_cell BK164.out 0).trans rfl; have hcz65_1 : w62.cell? ⟨gb164, 1, none⟩ = some (.int .i64 a2_1) := (blk_cell BK164.out 1).trans rfl; have hcz65_2 : w62.cell? ⟨gb164, 2, none⟩ = some (.int .i64 a2_2) := (blk_cell BK164.out 2).trans rfl; have hfz65_0 := blk_frozen BK164.out 0; have hfz65_1 := blk_frozen BK164.out 1; have hfz65_2 := blk_frozen BK164.out 2) | ((with_reducible refine gate_callee (f := 5) rfl ?_); refine goesL_ (some 20) rfl rfl Try.func5 (by kernel_rfl) rfl #[.agg #[.int .i64 a0_0, .int .i64 a0_1, .int .i64 a0_2, .int .i64 a0_3], .int .i64 a1, .int .i64 a2_0, .int .i64 a2_1] rfl (by (try simp only [List.map_toArray, List.map_cons, List.map_nil]); first | done | rfl | (simp only [List.length_drop, List.length_take]; rfl)) ?_; (with_reducible refine (cell_Middle.calls k a0_0 a0_1 a0_2 a0_3 a1 a2_0 a2_1 t166 t167 t168 _ A6.out).mono ?_); rintro e w66 ⟨rfl, hb⟩; refine ⟨_, rfl, ?_⟩; have n0_ := Aside0.mk (blk_below (g := gb163) (o := .cells #[.int .i64 a0_0, .int .i64 a0_1, .int .i64 a0_2, .int .i64 a0_3] 23 (0, 0)) (by (with_reducible repeat (first | refine blk_drewN ?_ _ | refine blk_drew ?_ | refine blk_alloc ?_ _)); exact BK163.out) hb); have n1_ := Aside0.mk (blk_below (g := gb164) (o := .cells #[.int .i64 a2_0, .int .i64 a2_1, .int .i64 a2_2] 24 (0, 0)) (by (with_reducible repeat (first | refine blk_drewN ?_ _ | refine blk_drew ?_ | refine blk_alloc ?_ _)); exact BK164.out) hb); have n2_ := Aside0.mk (below_step (by repeat (first | (with_reducible first | exact HB.out | apply below_alloc | apply pw_below_drewN | apply below_drew1 | refine below_set ?_ GE163.out | refine below_set ?_ GE164.out) | exact HB.out)) hb); clear BK163; clear BK164; clear HB; have BK163 := n0_; have BK164 := n1_; have HB := n2_; clear n0_ n1_ n2_; (try clear hb); (try clear hb2); (try clear hk); (try clear hi)) | ((with_reducible refine gate_dst (N := 7) rfl ?_); refine box_event ?hg (N := 7) ?hd (cs := #[.int .i64 0, .int .i64 0]) (t := 27) ?hr ?_; (case hd => rfl); (case hg => rfl); (case hr => first | (go_simp; done) | (go_simp; rfl)); intro gb169 hg w67 hbox hb; have n0_ := Aside0.mk (blk_below (g := gb163) (o := .cells #[.int .i64 a0_0, .int .i64 a0_1, .int .i64 a0_2, .int .i64 a0_3] 23 (0, 0)) (by (with_reducible repeat (first | refine blk_drewN ?_ _ | refine blk_drew ?_ | refine blk_alloc ?_ _)); exact BK163.out) hb); have n1_ := Aside0.mk (blk_below (g := gb164) (o := .cells #[.int .i64 a2_0, .int .i64 a2_1, .int .i64 a2_2] 24 (0, 0)) (by (with_reducible repeat (first | refine blk_drewN ?_ _ | refine blk_drew ?_ | refine blk_alloc ?_ _)); exact BK164.out) hb); have n2_ := Aside0.mk (below_step (by repeat (first | (with_reducible first | exact HB.out | apply below_alloc | apply pw_below_drewN | apply below_drew1 | refine below_set ?_ GE163.out | refine below_set ?_ GE164.out) | exact HB.out)) hb); have n3_ := Aside0.mk (hbox); have n4_ := Aside0.mk ((by rw [hg]; exact (below_size (by repeat (first | (with_reducible first | exact HB.out | apply below_alloc | apply pw_below_drewN | apply below_drew1 | refine below_set ?_ GE163.out | refine below_set ?_ GE164.out) | exact HB.out))) : w.heap.size ≤ gb169)); have n5_ := Aside0.mk ((by rw [hg]; exact (below_size (by repeat (first | (with_reducible first | exact HB.out | apply below_alloc | apply pw_below_drewN | apply below_drew1 | refine below_set ?_ GE163.out | refine below_set ?_ GE164.out) | exact HB.out))) : w.heap.size ≤ gb169)); have n6_ := Aside0.mk ((by rw [hg]; exact Nat.ne_of_lt (blk_lt (g := gb163) (o := .cells #[.int .i64 a0_0, .int .i64 a0_1, .int .i64 a0_2, .int .i64 a0_3] 23 (0, 0)) (by (with_reducible repeat (first | refine blk_drewN ?_ _ | refine blk_drew ?_ | refine blk_alloc ?_ _)); exact BK163.out)) : gb163 ≠ gb169)); have n7_ := Aside0.mk ((by rw [hg]; exact Nat.ne_of_gt (blk_lt (g := gb163) (o := .cells #[.int .i64 a0_0, .int .i64 a0_1, .int .i64 a0_2, .int .i64 a0_3] 23 (0, 0)) (by (with_reducible repeat (first | refine blk_drewN ?_ _ | refine blk_drew ?_ | refine blk_alloc ?_ _)); exact BK163.out)) : gb169 ≠ gb163)); have n8_ := Aside0.mk ((by rw [hg]; exact Nat.ne_of_lt (blk_lt (g := gb164) (o := .cells #[.int .i64 a2_0, .int .i64 a2_1, .int .i64 a2_2] 24 (0, 0)) (by (with_reducible repeat (first | refine blk_drewN ?_ _ | refine blk_drew ?_ | refine blk_alloc ?_ _)); exact BK164.out)) : gb164 ≠ gb169)); have n9_ := Aside0.mk ((by rw [hg]; exact Nat.ne_of_gt (blk_lt (g := gb164) (o := .cells #[.int .i64 a2_0, .int .i64 a2_1, .int .i64 a2_2] 24 (0, 0)) (by (with_reducible repeat (first | refine blk_drewN ?_ _ | refine blk_drew ?_ | refine blk_alloc ?_ _)); exact BK164.out)) : gb169 ≠ gb164)); clear BK163; clear BK164; clear HB; have BK163 := n0_; have BK164 := n1_; have HB := n2_; have BK169 := n3_; have GW169 := n4_; have GE169 := n5_; have NB163_169 := n6_; have NB169_163 := n7_; have NB164_169 := n8_; have NB169_164 := n9_; clear n0_ n1_ n2_ n3_ n4_ n5_ n6_ n7_ n8_ n9_; clear hb hbox hg; have hnb68 := NB169_163.out; have hnc68 := NB163_169.out; have hnb69 := NB169_164.out; have hnc69 := NB164_169.out; have hcz70_0 : w67.cell? ⟨gb169, 0, none⟩ = some (.int .i64 0) := (blk_cell BK169.out 0).trans rfl; have hcz70_1 : w67.cell? ⟨gb169, 1, none⟩ = some (.int .i64 0) := (blk_cell BK169.out 1).trans rfl; have hfz70_0 := blk_frozen BK169.out 0; have hfz70_1 := blk_frozen BK169.out 1; have hcz71_0 : w67.cell? ⟨gb163, 0, none⟩ = some (.int .i64 a0_0) := (blk_cell BK163.out 0).trans rfl; have hcz71_1 : w67.cell? ⟨gb163, 1, none⟩ = some (.int .i64 a0_1) := (blk_cell BK163.out 1).trans rfl; have hcz71_2 : w67.cell? ⟨gb163, 2, none⟩ = some (.int .i64 a0_2) := (blk_cell BK163.out 2).trans rfl; have hcz71_3 : w67.cell? ⟨gb163, 3, none⟩ = some (.int .i64 a0_3) := (blk_cell BK163.out 3).trans rfl; have hfz71_0 := blk_frozen BK163.out 0; have hfz71_1 := blk_frozen BK163.out 1; have hfz71_2 := blk_frozen BK163.out 2; have hfz71_3 := blk_frozen BK163.out 3; have hcz72_0 : w67.cell? ⟨gb164, 0, none⟩ = some (.int .i64 a2_0) := (blk_cell BK164.out 0).trans rfl; have hcz72_1 : w67.cell? ⟨gb164, 1, none⟩ = some (.int .i64 a2_1) := (blk_cell BK164.out 1).trans rfl; have hcz72_2 : w67.cell? ⟨gb164, 2, none⟩ = some (.int .i64 a2_2) := (blk_cell BK164.out 2).trans rfl; have hfz72_0 := blk_frozen BK164.out 0; have hfz72_1 := blk_frozen BK164.out 1; have hfz72_2 := blk_frozen BK164.out 2) | ((with_reducible refine gate_callee (f := 6) rfl ?_); refine goesL_ (some 30) rfl rfl Try.func6 (by kernel_rfl) rfl #[.agg #[.int .i64 a0_0, .int .i64 a0_1, .int .i64 a0_2, .int .i64 a0_3], .int .i64 a1, .int .i64 a2_0, .int .i64 a2_1] rfl (by (try simp only [List.map_toArray, List.map_cons, List.map_nil]); first | done | rfl | (simp only [List.length_drop, List.length_take]; rfl)) ?_; (with_reducible refine (pochoirref25_Middle.calls k a0_0 a0_1 a0_2 a0_3 a1 a2_0 a2_1 t170 t171 t172 _ A7.out).mono ?_); rintro e w73 ⟨rfl, hb⟩; refine ⟨_, rfl, ?_⟩; have n0_ := Aside0.mk (blk_below (g := gb163) (o := .cells #[.int .i64 a0_0, .int .i64 a0_1, .int .i64 a0_2, .int .i64 a0_3] 23 (0, 0)) (by (with_reducible repeat (first | refine blk_drewN ?_ _ | refine blk_drew ?_ | refine blk_alloc ?_ _)); refine blk_far ?_ NB163_169.out _; (with_reducible repeat (first | refine blk_drewN ?_ _ | refine blk_drew ?_ | refine blk_alloc ?_ _)); refine blk_far ?_ NB163_169.out _; (with_reducible repeat (first | refine blk_drewN ?_ _ | refine blk_drew ?_ | refine blk_alloc ?_ _)); exact BK163.out) hb); have n1_ := Aside0.mk (blk_below (g := gb164) (o := .cells #[.int .i64 a2_0, .int .i64 a2_1, .int .i64 a2_2] 24 (0, 0)) (by (with_reducible repeat (first | refine blk_drewN ?_ _ | refine blk_drew ?_ | refine blk_alloc ?_ _)); refine blk_far ?_ NB164_169.out _; (with_reducible repeat (first | refine blk_drewN ?_ _ | refine blk_drew ?_ | refine blk_alloc ?_ _)); refine blk_far ?_ NB164_169.out _; (with_reducible repeat (first | refine blk_drewN ?_ _ | refine blk_drew ?_ | refine blk_alloc ?_ _)); exact BK164.out) hb); have n2_ := Aside0.mk (blk_below (g := gb169) (o := .cells #[.int .i64 t166, .int .i64 t167] 27 (0, 0)) (by (with_reducible repeat (first | refine blk_drewN ?_ _ | refine blk_drew ?_ | refine blk_alloc ?_ _)); refine blk_put (cs := #[.int .i64 t166, .int .i64 0]) ?_ 1 _ rfl; (with_reducible repeat (first | refine blk_drewN ?_ _ | refine blk_drew ?_ | refine blk_alloc ?_ _)); refine blk_put (cs := #[.int .i64 0, .int .i64 0]) ?_ 0 _ rfl; (with_reducible repeat (first | refine blk_drewN ?_ _ | refine blk_drew ?_ | refine blk_alloc ?_ _)); exact BK169.out) hb); have n3_ := Aside0.mk (below_step (by repeat (first | (with_reducible first | exact HB.out | apply below_alloc | apply pw_below_drewN | apply below_drew1 | refine below_set ?_ GE163.out | refine below_set ?_ GE164.out | refine below_set ?_ GE169.out) | exact HB.out)) hb); clear BK163; clear BK164; clear BK169; clear HB; have BK163 := n0_; have BK164 := n1_; have BK169 := n2_; have HB := n3_; clear n0_ n1_ n2_ n3_; (try clear hb); (try clear hb2); (try clear hk); (try clear hi)) | ((with_reducible refine gate_dst (N := 9) rfl ?_); refine box_event ?hg (N := 9) ?hd (cs := #[.int .i64 0, .int .i64 0]) (t := 27) ?hr ?_; (case hd => rfl); (case hg => rfl); (case hr => first | (go_simp; done) | (go_simp; rfl)); intro gb173 hg w74 hbox hb; have n0_ := Aside0.mk (blk_below (g := gb163) (o := .cells #[.int .i64 a0_0, .int .i64 a0_1, .int .i64 a0_2, .int .i64 a0_3] 23 (0, 0)) (by (with_reducible repeat (first | refine blk_drewN ?_ _ | refine blk_drew ?_ | refine blk_alloc ?_ _)); exact BK163.out) hb); have n1_ := Aside0.mk (blk_below (g := gb164) (o := .cells #[.int .i64 a2_0, .int .i64 a2_1, .int .i64 a2_2] 24 (0, 0)) (by (with_reducible repeat (first | refine blk_drewN ?_ _ | refine blk_drew ?_ | refine blk_alloc ?_ _)); exact BK164.out) hb); have n2_ := Aside0.mk (blk_below (g := gb169) (o := .cells #[.int .i64 t166, .int .i64 t167] 27 (0, 0)) (by (with_reducible repeat (first | refine blk_drewN ?_ _ | refine blk_drew ?_ | refine blk_alloc ?_ _)); exact BK169.out) hb); have n3_ := Aside0.mk (below_step (by repeat (first | (with_reducible first | exact HB.out | apply below_alloc | apply pw_below_drewN | apply below_drew1 | refine below_set ?_ GE163.out | refine below_set ?_ GE164.out | refine below_set ?_ GE169.out) | exact HB.out)) hb); have n4_ := Aside0.mk (hbox); have n5_ := Aside0.mk ((by rw [hg]; exact (below_size (by repeat (first | (with_reducible first | exact HB.out | apply below_alloc | apply pw_below_drewN | apply below_drew1 | refine below_set ?_ GE163.out | refine below_set ?_ GE164.out | refine below_set ?_ GE169.out) | exact HB.out))) : w.heap.size ≤ gb173)); have n6_ := Aside0.mk ((by rw [hg]; exact (below_size (by repeat (first | (with_reducible first | exact HB.out | apply below_alloc | apply pw_below_drewN | apply below_drew1 | refine below_set ?_ GE163.out | refine below_set ?_ GE164.out | refine below_set ?_ GE169.out) | exact HB.out))) : w.heap.size ≤ gb173)); have n7_ := Aside0.mk ((by rw [hg]; exact Nat.ne_of_lt (blk_lt (g := gb163) (o := .cells #[.int .i64 a0_0, .int .i64 a0_1, .int .i64 a0_2, .int .i64 a0_3] 23 (0, 0)) (by (with_reducible repeat (first | refine blk_drewN ?_ _ | refine blk_drew ?_ | refine blk_alloc ?_ _)); exact BK163.out)) : gb163 ≠ gb173)); have n8_ := Aside0.mk ((by rw [hg]; exact Nat.ne_of_gt (blk_lt (g := gb163) (o := .cells #[.int .i64 a0_0, .int .i64 a0_1, .int .i64 a0_2, .int .i64 a0_3] 23 (0, 0)) (by (with_reducible repeat (first | refine blk_drewN ?_ _ | refine blk_drew ?_ | refine blk_alloc ?_ _)); exact BK163.out)) : gb173 ≠ gb163)); have n9_ := Aside0.mk ((by rw [hg]; exact Nat.ne_of_lt (blk_lt (g := gb164) (o := .cells #[.int .i64 a2_0, .int .i64 a2_1, .int .i64 a2_2] 24 (0, 0)) (by (with_reducible repeat (first | refine blk_drewN ?_ _ | refine blk_drew ?_ | refine blk_alloc ?_ _)); exact BK164.out)) : gb164 ≠ gb173)); have n10_ := Aside0.mk ((by rw [hg]; exact Nat.ne_of_gt (blk_lt (g := gb164) (o := .cells #[.int .i64 a2_0, .int .i64 a2_1, .int .i64 a2_2] 24 (0, 0)) (by (with_reducible repeat (first | refine blk_drewN ?_ _ | refine blk_drew ?_ | refine blk_alloc ?_ _)); exact BK164.out)) : gb173 ≠ gb164)); have n11_ := Aside0.mk ((by rw [hg]; exact Nat.ne_of_lt (blk_lt (g := gb169) (o := .cells #[.int .i64 t166, .int .i64 t167] 27 (0, 0)) (by (with_reducible repeat (first | refine blk_drewN ?_ _ | refine blk_drew ?_ | refine blk_alloc ?_ _)); exact BK169.out)) : gb169 ≠ gb173)); have n12_ := Aside0.mk ((by rw [hg]; exact Nat.ne_of_gt (blk_lt (g := gb169) (o := .cells #[.int .i64 t166, .int .i64 t167] 27 (0, 0)) (by (with_reducible repeat (first | refine blk_drewN ?_ _ | refine blk_drew ?_ | refine blk_alloc ?_ _)); exact BK169.out)) : gb173 ≠ gb169)); clear BK163; clear BK164; clear BK169; clear HB; have BK163 := n0_; have BK164 := n1_; have BK169 := n2_; have HB := n3_; have BK173 := n4_; have GW173 := n5_; have GE173 := n6_; have NB163_173 := n7_; have NB173_163 := n8_; have NB164_173 := n9_; have NB173_164 := n10_; have NB169_173 := n11_; have NB173_169 := n12_; clear n0_ n1_ n2_ n3_ n4_ n5_ n6_ n7_ n8_ n9_ n10_ n11_ n12_; clear hb hbox hg; have hnb75 := NB173_163.out; have hnc75 := NB163_173.out; have hnb76 := NB173_164.out; have hnc76 := NB164_173.out; have hnb77 := NB173_169.out; have hnc77 := NB169_173.out; have hcz78_0 : w74.cell? ⟨gb173, 0, none⟩ = some (.int .i64 0) := (blk_cell BK173.out 0).trans rfl; have hcz78_1 : w74.cell? ⟨gb173, 1, none⟩ = some (.int .i64 0) := (blk_cell BK173.out 1).trans rfl; have hfz78_0 := blk_frozen BK173.out 0; have hfz78_1 := blk_frozen BK173.out 1))
          have n0_ : Aside0 (((w74.setCell ⟨gb173, 0, none⟩ (.int .i64 t170)).setCell ⟨gb173, 1, none⟩ (.int .i64 t171)).heap[gb163]? = some (.cells #[.int .i64 a0_0, .int .i64 a0_1, .int .i64 a0_2, .int .i64 a0_3] 23 (0, 0))) := ⟨by (with_reducible repeat (first | refine blk_drewN ?_ _ | refine blk_drew ?_ | refine blk_alloc ?_ _)); refine blk_far ?_ NB163_173.out _; (with_reducible repeat (first | refine blk_drewN ?_ _ | refine blk_drew ?_ | refine blk_alloc ?_ _)); refine blk_far ?_ NB163_173.out _; (with_reducible repeat (first | refine blk_drewN ?_ _ | refine blk_drew ?_ | refine blk_alloc ?_ _)); exact BK163.out⟩
          have n1_ : Aside0 (((w74.setCell ⟨gb173, 0, none⟩ (.int .i64 t170)).setCell ⟨gb173, 1, none⟩ (.int .i64 t171)).heap[gb164]? = some (.cells #[.int .i64 a2_0, .int .i64 a2_1, .int .i64 a2_2] 24 (0, 0))) := ⟨by (with_reducible repeat (first | refine blk_drewN ?_ _ | refine blk_drew ?_ | refine blk_alloc ?_ _)); refine blk_far ?_ NB164_173.out _; (with_reducible repeat (first | refine blk_drewN ?_ _ | refine blk_drew ?_ | refine blk_alloc ?_ _)); refine blk_far ?_ NB164_173.out _; (with_reducible repeat (first | refine blk_drewN ?_ _ | refine blk_drew ?_ | refine blk_alloc ?_ _)); exact BK164.out⟩
          have n2_ : Aside0 (((w74.setCell ⟨gb173, 0, none⟩ (.int .i64 t170)).setCell ⟨gb173, 1, none⟩ (.int .i64 t171)).heap[gb169]? = some (.cells #[.int .i64 t166, .int .i64 t167] 27 (0, 0))) := ⟨by (with_reducible repeat (first | refine blk_drewN ?_ _ | refine blk_drew ?_ | refine blk_alloc ?_ _)); refine blk_far ?_ NB169_173.out _; (with_reducible repeat (first | refine blk_drewN ?_ _ | refine blk_drew ?_ | refine blk_alloc ?_ _)); refine blk_far ?_ NB169_173.out _; (with_reducible repeat (first | refine blk_drewN ?_ _ | refine blk_drew ?_ | refine blk_alloc ?_ _)); exact BK169.out⟩
          have n3_ : Aside0 (((w74.setCell ⟨gb173, 0, none⟩ (.int .i64 t170)).setCell ⟨gb173, 1, none⟩ (.int .i64 t171)).heap[gb173]? = some (.cells #[.int .i64 t170, .int .i64 t171] 27 (0, 0))) := ⟨by (with_reducible repeat (first | refine blk_drewN ?_ _ | refine blk_drew ?_ | refine blk_alloc ?_ _)); refine blk_put (cs := #[.int .i64 t170, .int .i64 0]) ?_ 1 _ rfl; (with_reducible repeat (first | refine blk_drewN ?_ _ | refine blk_drew ?_ | refine blk_alloc ?_ _)); refine blk_put (cs := #[.int .i64 0, .int .i64 0]) ?_ 0 _ rfl; (with_reducible repeat (first | refine blk_drewN ?_ _ | refine blk_drew ?_ | refine blk_alloc ?_ _)); exact BK173.out⟩
          have n4_ : Aside0 (Below w.heap.size w ((w74.setCell ⟨gb173, 0, none⟩ (.int .i64 t170)).setCell ⟨gb173, 1, none⟩ (.int .i64 t171))) := ⟨by repeat (first | (with_reducible first | exact HB.out | apply below_alloc | apply pw_below_drewN | apply below_drew1 | refine below_set ?_ GE163.out | refine below_set ?_ GE164.out | refine below_set ?_ GE169.out | refine below_set ?_ GE173.out) | exact HB.out)⟩
          (try clear BK163)
          (try clear BK164)
          (try clear BK169)
          (try clear BK173)
          (try clear HB)
          generalize ((w74.setCell ⟨gb173, 0, none⟩ (.int .i64 t170)).setCell ⟨gb173, 1, none⟩ (.int .i64 t171)) = w79 at n0_ n1_ n2_ n3_ n4_ ⊢
          have BK163 := n0_
          have BK164 := n1_
          have BK169 := n2_
          have BK173 := n3_
          have HB := n4_
          clear n0_ n1_ n2_ n3_ n4_
          have n0_ := Aside0.mk (blk_drew BK163.out)
          have n1_ := Aside0.mk (blk_drew BK164.out)
          have n2_ := Aside0.mk (blk_drew BK169.out)
          have n3_ := Aside0.mk (blk_drew BK173.out)
          have n4_ := Aside0.mk (below_drew1 HB.out)
          clear BK163
          clear BK164
          clear BK169
          clear BK173
          clear HB
          have BK163 := n0_
          have BK164 := n1_
          have BK169 := n2_
          have BK173 := n3_
          have HB := n4_
          clear n0_ n1_ n2_ n3_ n4_
          refine start_ (n := 15) (S := fun w' => w'.cell? ⟨gb169, 0, none⟩ = some (.int .i64 t166) ∧ w'.cell? ⟨gb169, 1, none⟩ = some (.int .i64 t167) ∧ w'.cell? ⟨gb173, 0, none⟩ = some (.int .i64 t170) ∧ w'.cell? ⟨gb173, 1, none⟩ = some (.int .i64 t171) ∧ w'.cell? ⟨gb163, 0, none⟩ = some (.int .i64 a0_0) ∧ w'.cell? ⟨gb163, 1, none⟩ = some (.int .i64 a0_1) ∧ w'.cell? ⟨gb163, 2, none⟩ = some (.int .i64 a0_2) ∧ w'.cell? ⟨gb163, 3, none⟩ = some (.int .i64 a0_3)) (ds := []) #[false, false, false, false, false, false, false, false, false, false, false, false, false, false, false] (by kernel_rfl) rfl rfl ⟨(blk_cell BK169.out 0).trans rfl, (blk_cell BK169.out 1).trans rfl, (blk_cell BK173.out 0).trans rfl, (blk_cell BK173.out 1).trans rfl, (blk_cell BK163.out 0).trans rfl, (blk_cell BK163.out 1).trans rfl, (blk_cell BK163.out 2).trans rfl, (blk_cell BK163.out 3).trans rfl⟩ (fun hHeld => ?_); refine with_tabW pochoirlaw25_CellMiddles.tab5 pochoirlaw25_CellMiddles.bits5 (fun HT_ HW_ => ?_)
          generalize w79.drew = w80 at BK163 BK164 BK169 BK173 HB hHeld ⊢
          refine take_ (i := 0) (N := some 33) (v := ?_) (a' := ?_) #[true, false, false, false, false, false, false, false, false, false, false, false, false, false, false] rfl rfl (take_ofW HT_.out HW_.out (by kernel_rfl)) (fun _ _ _ h => h) (Or.inl ⟨by rfl, ?_⟩) hHeld ?_ ?_
          rotate_left
          · rintro w' ⟨s0, s1, s2, s3, s4, s5, s6, s7⟩
            go_simp
            with_reducible rfl
          rotate_left
          · simp only [Act.put, List.setIfInBounds_toArray, List.set_cons_zero, List.set_cons_succ, i64_w, i32_w]
            rfl
          refine take_ (i := 1) (N := some 34) (v := ?_) (a' := ?_) #[true, true, false, false, false, false, false, false, false, false, false, false, false, false, false] rfl rfl (take_ofW HT_.out HW_.out (by kernel_rfl)) (fun _ _ _ h => h) (Or.inl ⟨by rfl, ?_⟩) hHeld ?_ ?_
          rotate_left
          · rintro w' ⟨s0, s1, s2, s3, s4, s5, s6, s7⟩
            go_simp
            with_reducible rfl
          rotate_left
          · simp only [Act.put, List.setIfInBounds_toArray, List.set_cons_zero, List.set_cons_succ, i64_w, i32_w]
            rfl
          refine pure_ (i := 2) (N := some 35) (v := ?_) (a' := ?_) #[true, true, true, false, false, false, false, false, false, false, false, false, false, false, false] rfl rfl (any_of HT_.out (by kernel_rfl)) (fun _ _ _ h => h) (Or.inl ⟨by rfl, ?_⟩) ?_ ?_
          rotate_left
          · intro w'
            go_simp
            with_reducible rfl
          rotate_left
          · simp only [Act.put, List.setIfInBounds_toArray, List.set_cons_zero, List.set_cons_succ, i64_w, i32_w]
            rfl
          refine pure_ (i := 3) (N := some 36) (v := ?_) (a' := ?_) #[true, true, true, true, false, false, false, false, false, false, false, false, false, false, false] rfl rfl (any_of HT_.out (by kernel_rfl)) (fun _ _ _ h => h) (Or.inl ⟨by rfl, ?_⟩) ?_ ?_
          rotate_left
          · intro w'
            go_simp
            with_reducible rfl
          rotate_left
          · simp only [Act.put, List.setIfInBounds_toArray, List.set_cons_zero, List.set_cons_succ, i64_w, i32_w]
            rfl
          refine pure_ (i := 4) (N := some 37) (v := ?_) (a' := ?_) #[true, true, true, true, true, false, false, false, false, false, false, false, false, false, false] rfl rfl (any_of HT_.out (by kernel_rfl)) (fun _ _ _ h => h) (Or.inl ⟨by rfl, ?_⟩) ?_ ?_
          rotate_left
          · intro w'
            go_simp
            with_reducible rfl
          rotate_left
          · simp only [Act.put, List.setIfInBounds_toArray, List.set_cons_zero, List.set_cons_succ, i64_w, i32_w]
            rfl
          refine pure_ (i := 5) (N := some 38) (v := ?_) (a' := ?_) #[true, true, true, true, true, true, false, false, false, false, false, false, false, false, false] rfl rfl (any_of HT_.out (by kernel_rfl)) (fun _ _ _ h => h) (Or.inl ⟨by rfl, ?_⟩) ?_ ?_
          rotate_left
          · intro w'
            go_simp
            with_reducible rfl
          rotate_left
          · simp only [Act.put, List.setIfInBounds_toArray, List.set_cons_zero, List.set_cons_succ, i64_w, i32_w]
            rfl
          refine pure_ (i := 6) (N := some 39) (v := ?_) (a' := ?_) #[true, true, true, true, true, true, true, false, false, false, false, false, false, false, false] rfl rfl (any_of HT_.out (by kernel_rfl)) (fun _ _ _ h => h) (Or.inl ⟨by rfl, ?_⟩) ?_ ?_
          rotate_left
          · intro w'
            go_simp
            with_reducible rfl
          rotate_left
          · simp only [Act.put, List.setIfInBounds_toArray, List.set_cons_zero, List.set_cons_succ, i64_w, i32_w]
            rfl
          refine pure_ (i := 7) (N := some 40) (v := ?_) (a' := ?_) #[true, true, true, true, true, true, true, true, false, false, false, false, false, false, false] rfl rfl (any_of HT_.out (by kernel_rfl)) (fun _ _ _ h => h) (Or.inl ⟨by rfl, ?_⟩) ?_ ?_
          rotate_left
          · intro w'
            go_simp
            with_reducible rfl
          rotate_left
          · simp only [Act.put, List.setIfInBounds_toArray, List.set_cons_zero, List.set_cons_succ, i64_w, i32_w]
            rfl
          refine pure_ (i := 8) (N := some 41) (v := ?_) (a' := ?_) #[true, true, true, true, true, true, true, true, true, false, false, false, false, false, false] rfl rfl (any_of HT_.out (by kernel_rfl)) (fun _ _ _ h => h) (Or.inl ⟨by rfl, ?_⟩) ?_ ?_
          rotate_left
          · intro w'
            go_simp
            with_reducible rfl
          rotate_left
          · simp only [Act.put, List.setIfInBounds_toArray, List.set_cons_zero, List.set_cons_succ, i64_w, i32_w]
            rfl
          refine take_ (i := 9) (N := some 42) (v := ?_) (a' := ?_) #[true, true, true, true, true, true, true, true, true, true, false, false, false, false, false] rfl rfl (take_ofW HT_.out HW_.out (by kernel_rfl)) (fun _ _ _ h => h) (Or.inl ⟨by rfl, ?_⟩) hHeld ?_ ?_
          rotate_left
          · rintro w' ⟨s0, s1, s2, s3, s4, s5, s6, s7⟩
            go_simp
            with_reducible rfl
          rotate_left
          · simp only [Act.put, List.setIfInBounds_toArray, List.set_cons_zero, List.set_cons_succ, i64_w, i32_w]
            rfl
          refine take_ (i := 11) (N := some 44) (v := ?_) (a' := ?_) #[true, true, true, true, true, true, true, true, true, true, false, true, false, false, false] rfl rfl (take_ofW HT_.out HW_.out (by kernel_rfl)) (fun _ _ _ h => h) (Or.inl ⟨by rfl, ?_⟩) hHeld ?_ ?_
          rotate_left
          · rintro w' ⟨s0, s1, s2, s3, s4, s5, s6, s7⟩
            go_simp
            with_reducible rfl
          rotate_left
          · simp only [Act.put, List.setIfInBounds_toArray, List.set_cons_zero, List.set_cons_succ, i64_w, i32_w]
            rfl
          refine one_ (i := 10) (N := some 43) #[true, true, true, true, true, true, true, true, true, true, true, true, false, false, false] rfl rfl (one_of HT_.out (by kernel_rfl)) (by decide) (fun K hK => ?_)
          refine goes_ Try.func7 (by kernel_rfl) rfl #[.agg #[.int .i64 a0_0, .int .i64 a0_1, .int .i64 a0_2, .int .i64 a0_3]] (by rfl) rfl rfl (by (try simp only [List.map_toArray, List.map_cons, List.map_nil]); first | done | rfl | (simp only [List.length_drop, List.length_take]; rfl)) ?_
          with_reducible refine (cell_May.calls a0_0 a0_1 a0_2 a0_3 t174 _ A31.out).mono ?_
          rintro e w81 ⟨rfl, hb⟩
          refine ⟨_, rfl, ?_⟩
          have n0_ := Aside0.mk (blk_below (g := gb163) (o := .cells #[.int .i64 a0_0, .int .i64 a0_1, .int .i64 a0_2, .int .i64 a0_3] 23 (0, 0)) (by (with_reducible repeat (first | refine blk_drewN ?_ _ | refine blk_drew ?_ | refine blk_alloc ?_ _)); exact BK163.out) hb)
          have n1_ := Aside0.mk (blk_below (g := gb164) (o := .cells #[.int .i64 a2_0, .int .i64 a2_1, .int .i64 a2_2] 24 (0, 0)) (by (with_reducible repeat (first | refine blk_drewN ?_ _ | refine blk_drew ?_ | refine blk_alloc ?_ _)); exact BK164.out) hb)
          have n2_ := Aside0.mk (blk_below (g := gb169) (o := .cells #[.int .i64 t166, .int .i64 t167] 27 (0, 0)) (by (with_reducible repeat (first | refine blk_drewN ?_ _ | refine blk_drew ?_ | refine blk_alloc ?_ _)); exact BK169.out) hb)
          have n3_ := Aside0.mk (blk_below (g := gb173) (o := .cells #[.int .i64 t170, .int .i64 t171] 27 (0, 0)) (by (with_reducible repeat (first | refine blk_drewN ?_ _ | refine blk_drew ?_ | refine blk_alloc ?_ _)); exact BK173.out) hb)
          have n4_ := Aside0.mk (below_step (by repeat (first | (with_reducible first | exact HB.out | apply below_alloc | apply pw_below_drewN | apply below_drew1 | refine below_set ?_ GE163.out | refine below_set ?_ GE164.out | refine below_set ?_ GE169.out | refine below_set ?_ GE173.out) | exact HB.out)) hb)
          clear BK163
          clear BK164
          clear BK169
          clear BK173
          clear HB
          have BK163 := n0_
          have BK164 := n1_
          have BK169 := n2_
          have BK173 := n3_
          have HB := n4_
          clear n0_ n1_ n2_ n3_ n4_
          (try clear hb)
          (try clear hb2)
          (try clear hk)
          (try clear hi)
          refine hK.out _ _ ⟨(blk_cell BK169.out 0).trans rfl, (blk_cell BK169.out 1).trans rfl, (blk_cell BK173.out 0).trans rfl, (blk_cell BK173.out 1).trans rfl, (blk_cell BK163.out 0).trans rfl, (blk_cell BK163.out 1).trans rfl, (blk_cell BK163.out 2).trans rfl, (blk_cell BK163.out 3).trans rfl⟩ (fun hHeld => ?_)
          clear hK K
          refine norm_ (a' := ?_) ?_ ?_
          rotate_left
          · show Act.put _ (some 43) _ = _
            simp only [Act.put, List.setIfInBounds_toArray, List.set_cons_zero, List.set_cons_succ, i64_w, i32_w]
            rfl
          refine one_ (i := 12) (N := some 45) #[true, true, true, true, true, true, true, true, true, true, true, true, true, false, false] rfl rfl (one_of HT_.out (by kernel_rfl)) (by decide) (fun K hK => ?_)
          refine goes_ Try.func8 (by kernel_rfl) rfl #[.agg #[.int .i64 a0_0, .int .i64 a0_1, .int .i64 a0_2, .int .i64 a0_3]] (by rfl) rfl rfl (by (try simp only [List.map_toArray, List.map_cons, List.map_nil]); first | done | rfl | (simp only [List.length_drop, List.length_take]; rfl)) ?_
          with_reducible refine (pochoirref25_May.calls a0_0 a0_1 a0_2 a0_3 t175 _ A32.out).mono ?_
          rintro e w82 ⟨rfl, hb⟩
          refine ⟨_, rfl, ?_⟩
          have n0_ := Aside0.mk (blk_below (g := gb163) (o := .cells #[.int .i64 a0_0, .int .i64 a0_1, .int .i64 a0_2, .int .i64 a0_3] 23 (0, 0)) (by (with_reducible repeat (first | refine blk_drewN ?_ _ | refine blk_drew ?_ | refine blk_alloc ?_ _)); exact BK163.out) hb)
          have n1_ := Aside0.mk (blk_below (g := gb164) (o := .cells #[.int .i64 a2_0, .int .i64 a2_1, .int .i64 a2_2] 24 (0, 0)) (by (with_reducible repeat (first | refine blk_drewN ?_ _ | refine blk_drew ?_ | refine blk_alloc ?_ _)); exact BK164.out) hb)
          have n2_ := Aside0.mk (blk_below (g := gb169) (o := .cells #[.int .i64 t166, .int .i64 t167] 27 (0, 0)) (by (with_reducible repeat (first | refine blk_drewN ?_ _ | refine blk_drew ?_ | refine blk_alloc ?_ _)); exact BK169.out) hb)
          have n3_ := Aside0.mk (blk_below (g := gb173) (o := .cells #[.int .i64 t170, .int .i64 t171] 27 (0, 0)) (by (with_reducible repeat (first | refine blk_drewN ?_ _ | refine blk_drew ?_ | refine blk_alloc ?_ _)); exact BK173.out) hb)
          have n4_ := Aside0.mk (below_step (by repeat (first | (with_reducible first | exact HB.out | apply below_alloc | apply pw_below_drewN | apply below_drew1 | refine below_set ?_ GE163.out | refine below_set ?_ GE164.out | refine below_set ?_ GE169.out | refine below_set ?_ GE173.out) | exact HB.out)) hb)
          clear BK163
          clear BK164
          clear BK169
          clear BK173
          clear HB
          have BK163 := n0_
          have BK164 := n1_
          have BK169 := n2_
          have BK173 := n3_
          have HB := n4_
          clear n0_ n1_ n2_ n3_ n4_
          (try clear hb)
          (try clear hb2)
          (try clear hk)
          (try clear hi)
          refine hK.out _ _ ⟨(blk_cell BK169.out 0).trans rfl, (blk_cell BK169.out 1).trans rfl, (blk_cell BK173.out 0).trans rfl, (blk_cell BK173.out 1).trans rfl, (blk_cell BK163.out 0).trans rfl, (blk_cell BK163.out 1).trans rfl, (blk_cell BK163.out 2).trans rfl, (blk_cell BK163.out 3).trans rfl⟩ (fun hHeld => ?_)
          clear hK K
          refine norm_ (a' := ?_) ?_ ?_
          rotate_left
          · show Act.put _ (some 45) _ = _
            simp only [Act.put, List.setIfInBounds_toArray, List.set_cons_zero, List.set_cons_succ, i64_w, i32_w]
            rfl
          refine pure_ (i := 13) (N := some 46) (v := ?_) (a' := ?_) #[true, true, true, true, true, true, true, true, true, true, true, true, true, true, false] rfl rfl (any_of HT_.out (by kernel_rfl)) (fun _ _ _ h => h) (Or.inl ⟨by rfl, ?_⟩) ?_ ?_
          rotate_left
          · intro w'
            go_simp
            with_reducible rfl
          rotate_left
          · simp only [Act.put, List.setIfInBounds_toArray, List.set_cons_zero, List.set_cons_succ, i64_w, i32_w]
            rfl
          refine pure_ (i := 14) (N := some 47) (v := ?_) (a' := ?_) #[true, true, true, true, true, true, true, true, true, true, true, true, true, true, true] rfl rfl (any_of HT_.out (by kernel_rfl)) (fun _ _ _ h => h) (Or.inl ⟨by rfl, ?_⟩) ?_ ?_
          rotate_left
          · intro w'
            go_simp
            with_reducible rfl
          rotate_left
          · simp only [Act.put, List.setIfInBounds_toArray, List.set_cons_zero, List.set_cons_succ, i64_w, i32_w]
            rfl
          refine done_ (done_of HT_.out (by kernel_rfl)) ?_
          have hcz83_0 : w82.cell? ⟨gb163, 0, none⟩ = some (.int .i64 a0_0) := (blk_cell BK163.out 0).trans rfl
          have hcz83_1 : w82.cell? ⟨gb163, 1, none⟩ = some (.int .i64 a0_1) := (blk_cell BK163.out 1).trans rfl
          have hcz83_2 : w82.cell? ⟨gb163, 2, none⟩ = some (.int .i64 a0_2) := (blk_cell BK163.out 2).trans rfl
          have hcz83_3 : w82.cell? ⟨gb163, 3, none⟩ = some (.int .i64 a0_3) := (blk_cell BK163.out 3).trans rfl
          have hfz83_0 := blk_frozen BK163.out 0
          have hfz83_1 := blk_frozen BK163.out 1
          have hfz83_2 := blk_frozen BK163.out 2
          have hfz83_3 := blk_frozen BK163.out 3
          have hcz84_0 : w82.cell? ⟨gb164, 0, none⟩ = some (.int .i64 a2_0) := (blk_cell BK164.out 0).trans rfl
          have hcz84_1 : w82.cell? ⟨gb164, 1, none⟩ = some (.int .i64 a2_1) := (blk_cell BK164.out 1).trans rfl
          have hcz84_2 : w82.cell? ⟨gb164, 2, none⟩ = some (.int .i64 a2_2) := (blk_cell BK164.out 2).trans rfl
          have hfz84_0 := blk_frozen BK164.out 0
          have hfz84_1 := blk_frozen BK164.out 1
          have hfz84_2 := blk_frozen BK164.out 2
          try go_wp2_with (first | ((with_reducible refine gate_callee (f := 9) rfl ?_); refine goesL_ (some 54) rfl rfl Try.func9 (by kernel_rfl) rfl #[.agg #[.int .i64 a0_0, .int .i64 a0_1, .int .i64 a0_2, .int .i64 a0_3], .int .i64 a1, .int .i64 ji58] rfl (by (try simp only [List.map_toArray, List.map_cons, List.map_nil]); first | done | (simp only [hji58]; rfl) | rfl | (simp only [List.length_drop, List.length_take]; rfl)) ?_; (with_reducible refine (pochoirlaw25_told.calls a0_0 a0_1 a0_2 a0_3 a1 ji58 t176 _ A59.out).mono ?_); rintro e w85 ⟨rfl, hb⟩; refine ⟨_, rfl, ?_⟩; have n0_ := Aside0.mk (blk_below (g := gb163) (o := .cells #[.int .i64 a0_0, .int .i64 a0_1, .int .i64 a0_2, .int .i64 a0_3] 23 (0, 0)) (by (with_reducible repeat (first | refine blk_drewN ?_ _ | refine blk_drew ?_ | refine blk_alloc ?_ _)); exact BK163.out) hb); have n1_ := Aside0.mk (blk_below (g := gb164) (o := .cells #[.int .i64 a2_0, .int .i64 a2_1, .int .i64 a2_2] 24 (0, 0)) (by (with_reducible repeat (first | refine blk_drewN ?_ _ | refine blk_drew ?_ | refine blk_alloc ?_ _)); exact BK164.out) hb); have n2_ := Aside0.mk (blk_below (g := gb169) (o := .cells #[.int .i64 t166, .int .i64 t167] 27 (0, 0)) (by (with_reducible repeat (first | refine blk_drewN ?_ _ | refine blk_drew ?_ | refine blk_alloc ?_ _)); exact BK169.out) hb); have n3_ := Aside0.mk (blk_below (g := gb173) (o := .cells #[.int .i64 t170, .int .i64 t171] 27 (0, 0)) (by (with_reducible repeat (first | refine blk_drewN ?_ _ | refine blk_drew ?_ | refine blk_alloc ?_ _)); exact BK173.out) hb); have n4_ := Aside0.mk (below_step (by repeat (first | (with_reducible first | exact HB.out | apply below_alloc | apply pw_below_drewN | apply below_drew1 | refine below_set ?_ GE163.out | refine below_set ?_ GE164.out | refine below_set ?_ GE169.out | refine below_set ?_ GE173.out) | exact HB.out)) hb); clear BK163; clear BK164; clear BK169; clear BK173; clear HB; have BK163 := n0_; have BK164 := n1_; have BK169 := n2_; have BK173 := n3_; have HB := n4_; clear n0_ n1_ n2_ n3_ n4_; (try clear hb); (try clear hb2); (try clear hk); (try clear hi)))
          go_ret
          exact ⟨by first | rfl | (simp [errW_none, errW_some] <;> rfl) | (simp only [← hji57, ← hji58]; first | rfl | (simp [errW_none, errW_some] <;> rfl)) | (simp [*, errW_none, errW_some] <;> rfl), by repeat (first | (with_reducible first | exact HB.out | apply below_alloc | apply pw_below_drewN | apply below_drew1 | refine below_set ?_ GE163.out | refine below_set ?_ GE164.out | refine below_set ?_ GE169.out | refine below_set ?_ GE173.out) | exact HB.out)⟩
      · rw [if_neg c30] at H
        have c30b0 : (t168 == t172) = false := beq_eq_false_iff_ne.mpr c30
        have c30b1 : (t168 != t172) = true := bne_iff_ne.mpr c30
        obtain rfl := Option.some.inj H
        go_enter Try.func3, Try.ntmps3
        try go_wp2_with (first | ((with_reducible refine gate_dst (N := 3) rfl ?_); refine box_event ?hg (N := 3) ?hd (cs := #[.int .i64 a0_0, .int .i64 a0_1, .int .i64 a0_2, .int .i64 a0_3]) (t := 23) ?hr ?_; (case hd => rfl); (case hg => rfl); (case hr => first | (go_simp; done) | (go_simp; rfl)); intro gb163 hg w86 hbox hb; have n0_ := Aside0.mk (below_step (by repeat (first | (with_reducible first | exact HB.out | apply below_alloc | apply pw_below_drewN | apply below_drew1) | exact HB.out)) hb); have n1_ := Aside0.mk (hbox); have n2_ := Aside0.mk ((by rw [hg]; exact (below_size (by repeat (first | (with_reducible first | exact HB.out | apply below_alloc | apply pw_below_drewN | apply below_drew1) | exact HB.out))) : w.heap.size ≤ gb163)); have n3_ := Aside0.mk ((by rw [hg]; exact (below_size (by repeat (first | (with_reducible first | exact HB.out | apply below_alloc | apply pw_below_drewN | apply below_drew1) | exact HB.out))) : w.heap.size ≤ gb163)); clear HB; have HB := n0_; have BK163 := n1_; have GW163 := n2_; have GE163 := n3_; clear n0_ n1_ n2_ n3_; clear hb hbox hg) | ((with_reducible refine gate_dst (N := 5) rfl ?_); refine box_event ?hg (N := 5) ?hd (cs := #[.int .i64 a2_0, .int .i64 a2_1, .int .i64 a2_2]) (t := 24) ?hr ?_; (case hd => rfl); (case hg => rfl); (case hr => first | (go_simp; done) | (go_simp; rfl)); intro gb164 hg w87 hbox hb; have n0_ := Aside0.mk (blk_below (g := gb163) (o := .cells #[.int .i64 a0_0, .int .i64 a0_1, .int .i64 a0_2, .int .i64 a0_3] 23 (0, 0)) (by (with_reducible repeat (first | refine blk_drewN ?_ _ | refine blk_drew ?_ | refine blk_alloc ?_ _)); exact BK163.out) hb); have n1_ := Aside0.mk (below_step (by repeat (first | (with_reducible first | exact HB.out | apply below_alloc | apply pw_below_drewN | apply below_drew1 | refine below_set ?_ GE163.out) | exact HB.out)) hb); have n2_ := Aside0.mk (hbox); have n3_ := Aside0.mk ((by rw [hg]; exact (below_size (by repeat (first | (with_reducible first | exact HB.out | apply below_alloc | apply pw_below_drewN | apply below_drew1 | refine below_set ?_ GE163.out) | exact HB.out))) : w.heap.size ≤ gb164)); have n4_ := Aside0.mk ((by rw [hg]; exact (below_size (by repeat (first | (with_reducible first | exact HB.out | apply below_alloc | apply pw_below_drewN | apply below_drew1 | refine below_set ?_ GE163.out) | exact HB.out))) : w.heap.size ≤ gb164)); have n5_ := Aside0.mk ((by rw [hg]; exact Nat.ne_of_lt (blk_lt (g := gb163) (o := .cells #[.int .i64 a0_0, .int .i64 a0_1, .int .i64 a0_2, .int .i64 a0_3] 23 (0, 0)) (by (with_reducible repeat (first | refine blk_drewN ?_ _ | refine blk_drew ?_ | refine blk_alloc ?_ _)); exact BK163.out)) : gb163 ≠ gb164)); have n6_ := Aside0.mk ((by rw [hg]; exact Nat.ne_of_gt (blk_lt (g := gb163) (o := .cells #[.int .i64 a0_0, .int .i64 a0_1, .int .i64 a0_2, .int .i64 a0_3] 23 (0, 0)) (by (with_reducible repeat (first | refine blk_drewN ?_ _ | refine blk_drew ?_ | refine blk_alloc ?_ _)); exact BK163.out)) : gb164 ≠ gb163)); clear BK163; clear HB; have BK163 := n0_; have HB := n1_; have BK164 := n2_; have GW164 := n3_; have GE164 := n4_; have NB163_164 := n5_; have NB164_163 := n6_; clear n0_ n1_ n2_ n3_ n4_ n5_ n6_; clear hb hbox hg) | ((with_reducible refine gate_callee (f := 4) rfl ?_); refine goesL_ (some 11) rfl rfl Try.func4 (by kernel_rfl) rfl #[] rfl (by (try simp only [List.map_toArray, List.map_cons, List.map_nil]); first | done | rfl | (simp only [List.length_drop, List.length_take]; rfl)) ?_; (with_reducible refine (pochoirlaw25_awake.calls k  true _ A4.out).mono ?_); rintro e w88 ⟨rfl, hb⟩; refine ⟨_, rfl, ?_⟩; have n0_ := Aside0.mk (blk_below (g := gb163) (o := .cells #[.int .i64 a0_0, .int .i64 a0_1, .int .i64 a0_2, .int .i64 a0_3] 23 (0, 0)) (by (with_reducible repeat (first | refine blk_drewN ?_ _ | refine blk_drew ?_ | refine blk_alloc ?_ _)); exact BK163.out) hb); have n1_ := Aside0.mk (blk_below (g := gb164) (o := .cells #[.int .i64 a2_0, .int .i64 a2_1, .int .i64 a2_2] 24 (0, 0)) (by (with_reducible repeat (first | refine blk_drewN ?_ _ | refine blk_drew ?_ | refine blk_alloc ?_ _)); exact BK164.out) hb); have n2_ := Aside0.mk (below_step (by repeat (first | (with_reducible first | exact HB.out | apply below_alloc | apply pw_below_drewN | apply below_drew1 | refine below_set ?_ GE163.out | refine below_set ?_ GE164.out) | exact HB.out)) hb); clear BK163; clear BK164; clear HB; have BK163 := n0_; have BK164 := n1_; have HB := n2_; clear n0_ n1_ n2_; (try clear hb); (try clear hb2); (try clear hk); (try clear hi); have hnb89 := NB163_164.out; have hnc89 := NB164_163.out; have hcz90_0 : w88.cell? ⟨gb163, 0, none⟩ = some (.int .i64 a0_0) := (blk_cell BK163.out 0).trans rfl; have hcz90_1 : w88.cell? ⟨gb163, 1, none⟩ = some (.int .i64 a0_1) := (blk_cell BK163.out 1).trans rfl; have hcz90_2 : w88.cell? ⟨gb163, 2, none⟩ = some (.int .i64 a0_2) := (blk_cell BK163.out 2).trans rfl; have hcz90_3 : w88.cell? ⟨gb163, 3, none⟩ = some (.int .i64 a0_3) := (blk_cell BK163.out 3).trans rfl; have hfz90_0 := blk_frozen BK163.out 0; have hfz90_1 := blk_frozen BK163.out 1; have hfz90_2 := blk_frozen BK163.out 2; have hfz90_3 := blk_frozen BK163.out 3; have hcz91_0 : w88.cell? ⟨gb164, 0, none⟩ = some (.int .i64 a2_0) := (blk_cell BK164.out 0).trans rfl; have hcz91_1 : w88.cell? ⟨gb164, 1, none⟩ = some (.int .i64 a2_1) := (blk_cell BK164.out 1).trans rfl; have hcz91_2 : w88.cell? ⟨gb164, 2, none⟩ = some (.int .i64 a2_2) := (blk_cell BK164.out 2).trans rfl; have hfz91_0 := blk_frozen BK164.out 0; have hfz91_1 := blk_frozen BK164.out 1; have hfz91_2 := blk_frozen BK164.out 2) | ((with_reducible refine gate_callee (f := 5) rfl ?_); refine goesL_ (some 20) rfl rfl Try.func5 (by kernel_rfl) rfl #[.agg #[.int .i64 a0_0, .int .i64 a0_1, .int .i64 a0_2, .int .i64 a0_3], .int .i64 a1, .int .i64 a2_0, .int .i64 a2_1] rfl (by (try simp only [List.map_toArray, List.map_cons, List.map_nil]); first | done | rfl | (simp only [List.length_drop, List.length_take]; rfl)) ?_; (with_reducible refine (cell_Middle.calls k a0_0 a0_1 a0_2 a0_3 a1 a2_0 a2_1 t166 t167 t168 _ A6.out).mono ?_); rintro e w92 ⟨rfl, hb⟩; refine ⟨_, rfl, ?_⟩; have n0_ := Aside0.mk (blk_below (g := gb163) (o := .cells #[.int .i64 a0_0, .int .i64 a0_1, .int .i64 a0_2, .int .i64 a0_3] 23 (0, 0)) (by (with_reducible repeat (first | refine blk_drewN ?_ _ | refine blk_drew ?_ | refine blk_alloc ?_ _)); exact BK163.out) hb); have n1_ := Aside0.mk (blk_below (g := gb164) (o := .cells #[.int .i64 a2_0, .int .i64 a2_1, .int .i64 a2_2] 24 (0, 0)) (by (with_reducible repeat (first | refine blk_drewN ?_ _ | refine blk_drew ?_ | refine blk_alloc ?_ _)); exact BK164.out) hb); have n2_ := Aside0.mk (below_step (by repeat (first | (with_reducible first | exact HB.out | apply below_alloc | apply pw_below_drewN | apply below_drew1 | refine below_set ?_ GE163.out | refine below_set ?_ GE164.out) | exact HB.out)) hb); clear BK163; clear BK164; clear HB; have BK163 := n0_; have BK164 := n1_; have HB := n2_; clear n0_ n1_ n2_; (try clear hb); (try clear hb2); (try clear hk); (try clear hi)) | ((with_reducible refine gate_dst (N := 7) rfl ?_); refine box_event ?hg (N := 7) ?hd (cs := #[.int .i64 0, .int .i64 0]) (t := 27) ?hr ?_; (case hd => rfl); (case hg => rfl); (case hr => first | (go_simp; done) | (go_simp; rfl)); intro gb169 hg w93 hbox hb; have n0_ := Aside0.mk (blk_below (g := gb163) (o := .cells #[.int .i64 a0_0, .int .i64 a0_1, .int .i64 a0_2, .int .i64 a0_3] 23 (0, 0)) (by (with_reducible repeat (first | refine blk_drewN ?_ _ | refine blk_drew ?_ | refine blk_alloc ?_ _)); exact BK163.out) hb); have n1_ := Aside0.mk (blk_below (g := gb164) (o := .cells #[.int .i64 a2_0, .int .i64 a2_1, .int .i64 a2_2] 24 (0, 0)) (by (with_reducible repeat (first | refine blk_drewN ?_ _ | refine blk_drew ?_ | refine blk_alloc ?_ _)); exact BK164.out) hb); have n2_ := Aside0.mk (below_step (by repeat (first | (with_reducible first | exact HB.out | apply below_alloc | apply pw_below_drewN | apply below_drew1 | refine below_set ?_ GE163.out | refine below_set ?_ GE164.out) | exact HB.out)) hb); have n3_ := Aside0.mk (hbox); have n4_ := Aside0.mk ((by rw [hg]; exact (below_size (by repeat (first | (with_reducible first | exact HB.out | apply below_alloc | apply pw_below_drewN | apply below_drew1 | refine below_set ?_ GE163.out | refine below_set ?_ GE164.out) | exact HB.out))) : w.heap.size ≤ gb169)); have n5_ := Aside0.mk ((by rw [hg]; exact (below_size (by repeat (first | (with_reducible first | exact HB.out | apply below_alloc | apply pw_below_drewN | apply below_drew1 | refine below_set ?_ GE163.out | refine below_set ?_ GE164.out) | exact HB.out))) : w.heap.size ≤ gb169)); have n6_ := Aside0.mk ((by rw [hg]; exact Nat.ne_of_lt (blk_lt (g := gb163) (o := .cells #[.int .i64 a0_0, .int .i64 a0_1, .int .i64 a0_2, .int .i64 a0_3] 23 (0, 0)) (by (with_reducible repeat (first | refine blk_drewN ?_ _ | refine blk_drew ?_ | refine blk_alloc ?_ _)); exact BK163.out)) : gb163 ≠ gb169)); have n7_ := Aside0.mk ((by rw [hg]; exact Nat.ne_of_gt (blk_lt (g := gb163) (o := .cells #[.int .i64 a0_0, .int .i64 a0_1, .int .i64 a0_2, .int .i64 a0_3] 23 (0, 0)) (by (with_reducible repeat (first | refine blk_drewN ?_ _ | refine blk_drew ?_ | refine blk_alloc ?_ _)); exact BK163.out)) : gb169 ≠ gb163)); have n8_ := Aside0.mk ((by rw [hg]; exact Nat.ne_of_lt (blk_lt (g := gb164) (o := .cells #[.int .i64 a2_0, .int .i64 a2_1, .int .i64 a2_2] 24 (0, 0)) (by (with_reducible repeat (first | refine blk_drewN ?_ _ | refine blk_drew ?_ | refine blk_alloc ?_ _)); exact BK164.out)) : gb164 ≠ gb169)); have n9_ := Aside0.mk ((by rw [hg]; exact Nat.ne_of_gt (blk_lt (g := gb164) (o := .cells #[.int .i64 a2_0, .int .i64 a2_1, .int .i64 a2_2] 24 (0, 0)) (by (with_reducible repeat (first | refine blk_drewN ?_ _ | refine blk_drew ?_ | refine blk_alloc ?_ _)); exact BK164.out)) : gb169 ≠ gb164)); clear BK163; clear BK164; clear HB; have BK163 := n0_; have BK164 := n1_; have HB := n2_; have BK169 := n3_; have GW169 := n4_; have GE169 := n5_; have NB163_169 := n6_; have NB169_163 := n7_; have NB164_169 := n8_; have NB169_164 := n9_; clear n0_ n1_ n2_ n3_ n4_ n5_ n6_ n7_ n8_ n9_; clear hb hbox hg; have hnb94 := NB169_163.out; have hnc94 := NB163_169.out; have hnb95 := NB169_164.out; have hnc95 := NB164_169.out; have hcz96_0 : w93.cell? ⟨gb169, 0, none⟩ = some (.int .i64 0) := (blk_cell BK169.out 0).trans rfl; have hcz96_1 : w93.cell? ⟨gb169, 1, none⟩ = some (.int .i64 0) := (blk_cell BK169.out 1).trans rfl; have hfz96_0 := blk_frozen BK169.out 0; have hfz96_1 := blk_frozen BK169.out 1; have hcz97_0 : w93.cell? ⟨gb163, 0, none⟩ = some (.int .i64 a0_0) := (blk_cell BK163.out 0).trans rfl; have hcz97_1 : w93.cell? ⟨gb163, 1, none⟩ = some (.int .i64 a0_1) := (blk_cell BK163.out 1).trans rfl; have hcz97_2 : w93.cell? ⟨gb163, 2, none⟩ = some (.int .i64 a0_2) := (blk_cell BK163.out 2).trans rfl; have hcz97_3 : w93.cell? ⟨gb163, 3, none⟩ = some (.int .i64 a0_3) := (blk_cell BK163.out 3).trans rfl; have hfz97_0 := blk_frozen BK163.out 0; have hfz97_1 := blk_frozen BK163.out 1; have hfz97_2 := blk_frozen BK163.out 2; have hfz97_3 := blk_frozen BK163.out 3; have hcz98_0 : w93.cell? ⟨gb164, 0, none⟩ = some (.int .i64 a2_0) := (blk_cell BK164.out 0).trans rfl; have hcz98_1 : w93.cell? ⟨gb164, 1, none⟩ = some (.int .i64 a2_1) := (blk_cell BK164.out 1).trans rfl; have hcz98_2 : w93.cell? ⟨gb164, 2, none⟩ = some (.int .i64 a2_2) := (blk_cell BK164.out 2).trans rfl; have hfz98_0 := blk_frozen BK164.out 0; have hfz98_1 := blk_frozen BK164.out 1; have hfz98_2 := blk_frozen BK164.out 2) | ((with_reducible refine gate_callee (f := 6) rfl ?_); refine goesL_ (some 30) rfl rfl Try.func6 (by kernel_rfl) rfl #[.agg #[.int .i64 a0_0, .int .i64 a0_1, .int .i64 a0_2, .int .i64 a0_3], .int .i64 a1, .int .i64 a2_0, .int .i64 a2_1] rfl (by (try simp only [List.map_toArray, List.map_cons, List.map_nil]); first | done | rfl | (simp only [List.length_drop, List.length_take]; rfl)) ?_; (with_reducible refine (pochoirref25_Middle.calls k a0_0 a0_1 a0_2 a0_3 a1 a2_0 a2_1 t170 t171 t172 _ A7.out).mono ?_); rintro e w99 ⟨rfl, hb⟩; refine ⟨_, rfl, ?_⟩; have n0_ := Aside0.mk (blk_below (g := gb163) (o := .cells #[.int .i64 a0_0, .int .i64 a0_1, .int .i64 a0_2, .int .i64 a0_3] 23 (0, 0)) (by (with_reducible repeat (first | refine blk_drewN ?_ _ | refine blk_drew ?_ | refine blk_alloc ?_ _)); refine blk_far ?_ NB163_169.out _; (with_reducible repeat (first | refine blk_drewN ?_ _ | refine blk_drew ?_ | refine blk_alloc ?_ _)); refine blk_far ?_ NB163_169.out _; (with_reducible repeat (first | refine blk_drewN ?_ _ | refine blk_drew ?_ | refine blk_alloc ?_ _)); exact BK163.out) hb); have n1_ := Aside0.mk (blk_below (g := gb164) (o := .cells #[.int .i64 a2_0, .int .i64 a2_1, .int .i64 a2_2] 24 (0, 0)) (by (with_reducible repeat (first | refine blk_drewN ?_ _ | refine blk_drew ?_ | refine blk_alloc ?_ _)); refine blk_far ?_ NB164_169.out _; (with_reducible repeat (first | refine blk_drewN ?_ _ | refine blk_drew ?_ | refine blk_alloc ?_ _)); refine blk_far ?_ NB164_169.out _; (with_reducible repeat (first | refine blk_drewN ?_ _ | refine blk_drew ?_ | refine blk_alloc ?_ _)); exact BK164.out) hb); have n2_ := Aside0.mk (blk_below (g := gb169) (o := .cells #[.int .i64 t166, .int .i64 t167] 27 (0, 0)) (by (with_reducible repeat (first | refine blk_drewN ?_ _ | refine blk_drew ?_ | refine blk_alloc ?_ _)); refine blk_put (cs := #[.int .i64 t166, .int .i64 0]) ?_ 1 _ rfl; (with_reducible repeat (first | refine blk_drewN ?_ _ | refine blk_drew ?_ | refine blk_alloc ?_ _)); refine blk_put (cs := #[.int .i64 0, .int .i64 0]) ?_ 0 _ rfl; (with_reducible repeat (first | refine blk_drewN ?_ _ | refine blk_drew ?_ | refine blk_alloc ?_ _)); exact BK169.out) hb); have n3_ := Aside0.mk (below_step (by repeat (first | (with_reducible first | exact HB.out | apply below_alloc | apply pw_below_drewN | apply below_drew1 | refine below_set ?_ GE163.out | refine below_set ?_ GE164.out | refine below_set ?_ GE169.out) | exact HB.out)) hb); clear BK163; clear BK164; clear BK169; clear HB; have BK163 := n0_; have BK164 := n1_; have BK169 := n2_; have HB := n3_; clear n0_ n1_ n2_ n3_; (try clear hb); (try clear hb2); (try clear hk); (try clear hi)) | ((with_reducible refine gate_dst (N := 9) rfl ?_); refine box_event ?hg (N := 9) ?hd (cs := #[.int .i64 0, .int .i64 0]) (t := 27) ?hr ?_; (case hd => rfl); (case hg => rfl); (case hr => first | (go_simp; done) | (go_simp; rfl)); intro gb173 hg w100 hbox hb; have n0_ := Aside0.mk (blk_below (g := gb163) (o := .cells #[.int .i64 a0_0, .int .i64 a0_1, .int .i64 a0_2, .int .i64 a0_3] 23 (0, 0)) (by (with_reducible repeat (first | refine blk_drewN ?_ _ | refine blk_drew ?_ | refine blk_alloc ?_ _)); exact BK163.out) hb); have n1_ := Aside0.mk (blk_below (g := gb164) (o := .cells #[.int .i64 a2_0, .int .i64 a2_1, .int .i64 a2_2] 24 (0, 0)) (by (with_reducible repeat (first | refine blk_drewN ?_ _ | refine blk_drew ?_ | refine blk_alloc ?_ _)); exact BK164.out) hb); have n2_ := Aside0.mk (blk_below (g := gb169) (o := .cells #[.int .i64 t166, .int .i64 t167] 27 (0, 0)) (by (with_reducible repeat (first | refine blk_drewN ?_ _ | refine blk_drew ?_ | refine blk_alloc ?_ _)); exact BK169.out) hb); have n3_ := Aside0.mk (below_step (by repeat (first | (with_reducible first | exact HB.out | apply below_alloc | apply pw_below_drewN | apply below_drew1 | refine below_set ?_ GE163.out | refine below_set ?_ GE164.out | refine below_set ?_ GE169.out) | exact HB.out)) hb); have n4_ := Aside0.mk (hbox); have n5_ := Aside0.mk ((by rw [hg]; exact (below_size (by repeat (first | (with_reducible first | exact HB.out | apply below_alloc | apply pw_below_drewN | apply below_drew1 | refine below_set ?_ GE163.out | refine below_set ?_ GE164.out | refine below_set ?_ GE169.out) | exact HB.out))) : w.heap.size ≤ gb173)); have n6_ := Aside0.mk ((by rw [hg]; exact (below_size (by repeat (first | (with_reducible first | exact HB.out | apply below_alloc | apply pw_below_drewN | apply below_drew1 | refine below_set ?_ GE163.out | refine below_set ?_ GE164.out | refine below_set ?_ GE169.out) | exact HB.out))) : w.heap.size ≤ gb173)); have n7_ := Aside0.mk ((by rw [hg]; exact Nat.ne_of_lt (blk_lt (g := gb163) (o := .cells #[.int .i64 a0_0, .int .i64 a0_1, .int .i64 a0_2, .int .i64 a0_3] 23 (0, 0)) (by (with_reducible repeat (first | refine blk_drewN ?_ _ | refine blk_drew ?_ | refine blk_alloc ?_ _)); exact BK163.out)) : gb163 ≠ gb173)); have n8_ := Aside0.mk ((by rw [hg]; exact Nat.ne_of_gt (blk_lt (g := gb163) (o := .cells #[.int .i64 a0_0, .int .i64 a0_1, .int .i64 a0_2, .int .i64 a0_3] 23 (0, 0)) (by (with_reducible repeat (first | refine blk_drewN ?_ _ | refine blk_drew ?_ | refine blk_alloc ?_ _)); exact BK163.out)) : gb173 ≠ gb163)); have n9_ := Aside0.mk ((by rw [hg]; exact Nat.ne_of_lt (blk_lt (g := gb164) (o := .cells #[.int .i64 a2_0, .int .i64 a2_1, .int .i64 a2_2] 24 (0, 0)) (by (with_reducible repeat (first | refine blk_drewN ?_ _ | refine blk_drew ?_ | refine blk_alloc ?_ _)); exact BK164.out)) : gb164 ≠ gb173)); have n10_ := Aside0.mk ((by rw [hg]; exact Nat.ne_of_gt (blk_lt (g := gb164) (o := .cells #[.int .i64 a2_0, .int .i64 a2_1, .int .i64 a2_2] 24 (0, 0)) (by (with_reducible repeat (first | refine blk_drewN ?_ _ | refine blk_drew ?_ | refine blk_alloc ?_ _)); exact BK164.out)) : gb173 ≠ gb164)); have n11_ := Aside0.mk ((by rw [hg]; exact Nat.ne_of_lt (blk_lt (g := gb169) (o := .cells #[.int .i64 t166, .int .i64 t167] 27 (0, 0)) (by (with_reducible repeat (first | refine blk_drewN ?_ _ | refine blk_drew ?_ | refine blk_alloc ?_ _)); exact BK169.out)) : gb169 ≠ gb173)); have n12_ := Aside0.mk ((by rw [hg]; exact Nat.ne_of_gt (blk_lt (g := gb169) (o := .cells #[.int .i64 t166, .int .i64 t167] 27 (0, 0)) (by (with_reducible repeat (first | refine blk_drewN ?_ _ | refine blk_drew ?_ | refine blk_alloc ?_ _)); exact BK169.out)) : gb173 ≠ gb169)); clear BK163; clear BK164; clear BK169; clear HB; have BK163 := n0_; have BK164 := n1_; have BK169 := n2_; have HB := n3_; have BK173 := n4_; have GW173 := n5_; have GE173 := n6_; have NB163_173 := n7_; have NB173_163 := n8_; have NB164_173 := n9_; have NB173_164 := n10_; have NB169_173 := n11_; have NB173_169 := n12_; clear n0_ n1_ n2_ n3_ n4_ n5_ n6_ n7_ n8_ n9_ n10_ n11_ n12_; clear hb hbox hg; have hnb101 := NB173_163.out; have hnc101 := NB163_173.out; have hnb102 := NB173_164.out; have hnc102 := NB164_173.out; have hnb103 := NB173_169.out; have hnc103 := NB169_173.out; have hcz104_0 : w100.cell? ⟨gb173, 0, none⟩ = some (.int .i64 0) := (blk_cell BK173.out 0).trans rfl; have hcz104_1 : w100.cell? ⟨gb173, 1, none⟩ = some (.int .i64 0) := (blk_cell BK173.out 1).trans rfl; have hfz104_0 := blk_frozen BK173.out 0; have hfz104_1 := blk_frozen BK173.out 1))
        have n0_ : Aside0 (((w100.setCell ⟨gb173, 0, none⟩ (.int .i64 t170)).setCell ⟨gb173, 1, none⟩ (.int .i64 t171)).heap[gb163]? = some (.cells #[.int .i64 a0_0, .int .i64 a0_1, .int .i64 a0_2, .int .i64 a0_3] 23 (0, 0))) := ⟨by (with_reducible repeat (first | refine blk_drewN ?_ _ | refine blk_drew ?_ | refine blk_alloc ?_ _)); refine blk_far ?_ NB163_173.out _; (with_reducible repeat (first | refine blk_drewN ?_ _ | refine blk_drew ?_ | refine blk_alloc ?_ _)); refine blk_far ?_ NB163_173.out _; (with_reducible repeat (first | refine blk_drewN ?_ _ | refine blk_drew ?_ | refine blk_alloc ?_ _)); exact BK163.out⟩
        have n1_ : Aside0 (((w100.setCell ⟨gb173, 0, none⟩ (.int .i64 t170)).setCell ⟨gb173, 1, none⟩ (.int .i64 t171)).heap[gb164]? = some (.cells #[.int .i64 a2_0, .int .i64 a2_1, .int .i64 a2_2] 24 (0, 0))) := ⟨by (with_reducible repeat (first | refine blk_drewN ?_ _ | refine blk_drew ?_ | refine blk_alloc ?_ _)); refine blk_far ?_ NB164_173.out _; (with_reducible repeat (first | refine blk_drewN ?_ _ | refine blk_drew ?_ | refine blk_alloc ?_ _)); refine blk_far ?_ NB164_173.out _; (with_reducible repeat (first | refine blk_drewN ?_ _ | refine blk_drew ?_ | refine blk_alloc ?_ _)); exact BK164.out⟩
        have n2_ : Aside0 (((w100.setCell ⟨gb173, 0, none⟩ (.int .i64 t170)).setCell ⟨gb173, 1, none⟩ (.int .i64 t171)).heap[gb169]? = some (.cells #[.int .i64 t166, .int .i64 t167] 27 (0, 0))) := ⟨by (with_reducible repeat (first | refine blk_drewN ?_ _ | refine blk_drew ?_ | refine blk_alloc ?_ _)); refine blk_far ?_ NB169_173.out _; (with_reducible repeat (first | refine blk_drewN ?_ _ | refine blk_drew ?_ | refine blk_alloc ?_ _)); refine blk_far ?_ NB169_173.out _; (with_reducible repeat (first | refine blk_drewN ?_ _ | refine blk_drew ?_ | refine blk_alloc ?_ _)); exact BK169.out⟩
        have n3_ : Aside0 (((w100.setCell ⟨gb173, 0, none⟩ (.int .i64 t170)).setCell ⟨gb173, 1, none⟩ (.int .i64 t171)).heap[gb173]? = some (.cells #[.int .i64 t170, .int .i64 t171] 27 (0, 0))) := ⟨by (with_reducible repeat (first | refine blk_drewN ?_ _ | refine blk_drew ?_ | refine blk_alloc ?_ _)); refine blk_put (cs := #[.int .i64 t170, .int .i64 0]) ?_ 1 _ rfl; (with_reducible repeat (first | refine blk_drewN ?_ _ | refine blk_drew ?_ | refine blk_alloc ?_ _)); refine blk_put (cs := #[.int .i64 0, .int .i64 0]) ?_ 0 _ rfl; (with_reducible repeat (first | refine blk_drewN ?_ _ | refine blk_drew ?_ | refine blk_alloc ?_ _)); exact BK173.out⟩
        have n4_ : Aside0 (Below w.heap.size w ((w100.setCell ⟨gb173, 0, none⟩ (.int .i64 t170)).setCell ⟨gb173, 1, none⟩ (.int .i64 t171))) := ⟨by repeat (first | (with_reducible first | exact HB.out | apply below_alloc | apply pw_below_drewN | apply below_drew1 | refine below_set ?_ GE163.out | refine below_set ?_ GE164.out | refine below_set ?_ GE169.out | refine below_set ?_ GE173.out) | exact HB.out)⟩
        (try clear BK163)
        (try clear BK164)
        (try clear BK169)
        (try clear BK173)
        (try clear HB)
        generalize ((w100.setCell ⟨gb173, 0, none⟩ (.int .i64 t170)).setCell ⟨gb173, 1, none⟩ (.int .i64 t171)) = w105 at n0_ n1_ n2_ n3_ n4_ ⊢
        have BK163 := n0_
        have BK164 := n1_
        have BK169 := n2_
        have BK173 := n3_
        have HB := n4_
        clear n0_ n1_ n2_ n3_ n4_
        have n0_ := Aside0.mk (blk_drew BK163.out)
        have n1_ := Aside0.mk (blk_drew BK164.out)
        have n2_ := Aside0.mk (blk_drew BK169.out)
        have n3_ := Aside0.mk (blk_drew BK173.out)
        have n4_ := Aside0.mk (below_drew1 HB.out)
        clear BK163
        clear BK164
        clear BK169
        clear BK173
        clear HB
        have BK163 := n0_
        have BK164 := n1_
        have BK169 := n2_
        have BK173 := n3_
        have HB := n4_
        clear n0_ n1_ n2_ n3_ n4_
        refine start_ (n := 15) (S := fun w' => w'.cell? ⟨gb169, 0, none⟩ = some (.int .i64 t166) ∧ w'.cell? ⟨gb169, 1, none⟩ = some (.int .i64 t167) ∧ w'.cell? ⟨gb173, 0, none⟩ = some (.int .i64 t170) ∧ w'.cell? ⟨gb173, 1, none⟩ = some (.int .i64 t171)) (ds := []) #[false, false, false, false, false, false, false, false, false, false, false, false, false, false, false] (by kernel_rfl) rfl rfl ⟨(blk_cell BK169.out 0).trans rfl, (blk_cell BK169.out 1).trans rfl, (blk_cell BK173.out 0).trans rfl, (blk_cell BK173.out 1).trans rfl⟩ (fun hHeld => ?_); refine with_tabW pochoirlaw25_CellMiddles.tab5 pochoirlaw25_CellMiddles.bits5 (fun HT_ HW_ => ?_)
        generalize w105.drew = w106 at BK163 BK164 BK169 BK173 HB hHeld ⊢
        refine take_ (i := 0) (N := some 33) (v := ?_) (a' := ?_) #[true, false, false, false, false, false, false, false, false, false, false, false, false, false, false] rfl rfl (take_ofW HT_.out HW_.out (by kernel_rfl)) (fun _ _ _ h => h) (Or.inl ⟨by rfl, ?_⟩) hHeld ?_ ?_
        rotate_left
        · rintro w' ⟨s0, s1, s2, s3⟩
          go_simp
          with_reducible rfl
        rotate_left
        · simp only [Act.put, List.setIfInBounds_toArray, List.set_cons_zero, List.set_cons_succ, i64_w, i32_w]
          rfl
        refine take_ (i := 1) (N := some 34) (v := ?_) (a' := ?_) #[true, true, false, false, false, false, false, false, false, false, false, false, false, false, false] rfl rfl (take_ofW HT_.out HW_.out (by kernel_rfl)) (fun _ _ _ h => h) (Or.inl ⟨by rfl, ?_⟩) hHeld ?_ ?_
        rotate_left
        · rintro w' ⟨s0, s1, s2, s3⟩
          go_simp
          with_reducible rfl
        rotate_left
        · simp only [Act.put, List.setIfInBounds_toArray, List.set_cons_zero, List.set_cons_succ, i64_w, i32_w]
          rfl
        refine pure_ (i := 2) (N := some 35) (v := ?_) (a' := ?_) #[true, true, true, false, false, false, false, false, false, false, false, false, false, false, false] rfl rfl (any_of HT_.out (by kernel_rfl)) (fun _ _ _ h => h) (Or.inl ⟨by rfl, ?_⟩) ?_ ?_
        rotate_left
        · intro w'
          go_simp
          with_reducible rfl
        rotate_left
        · simp only [Act.put, List.setIfInBounds_toArray, List.set_cons_zero, List.set_cons_succ, i64_w, i32_w]
          rfl
        refine pure_ (i := 3) (N := some 36) (v := ?_) (a' := ?_) #[true, true, true, true, false, false, false, false, false, false, false, false, false, false, false] rfl rfl (any_of HT_.out (by kernel_rfl)) (fun _ _ _ h => h) (Or.inl ⟨by rfl, ?_⟩) ?_ ?_
        rotate_left
        · intro w'
          go_simp
          with_reducible rfl
        rotate_left
        · simp only [Act.put, List.setIfInBounds_toArray, List.set_cons_zero, List.set_cons_succ, i64_w, i32_w]
          rfl
        refine pure_ (i := 4) (N := some 37) (v := ?_) (a' := ?_) #[true, true, true, true, true, false, false, false, false, false, false, false, false, false, false] rfl rfl (any_of HT_.out (by kernel_rfl)) (fun _ _ _ h => h) (Or.inl ⟨by rfl, ?_⟩) ?_ ?_
        rotate_left
        · intro w'
          go_simp
          with_reducible rfl
        rotate_left
        · simp only [Act.put, List.setIfInBounds_toArray, List.set_cons_zero, List.set_cons_succ, i64_w, i32_w]
          rfl
        refine pure_ (i := 5) (N := some 38) (v := ?_) (a' := ?_) #[true, true, true, true, true, true, false, false, false, false, false, false, false, false, false] rfl rfl (any_of HT_.out (by kernel_rfl)) (fun _ _ _ h => h) (Or.inl ⟨by rfl, ?_⟩) ?_ ?_
        rotate_left
        · intro w'
          go_simp
          with_reducible rfl
        rotate_left
        · simp only [Act.put, List.setIfInBounds_toArray, List.set_cons_zero, List.set_cons_succ, i64_w, i32_w]
          rfl
        refine pure_ (i := 6) (N := some 39) (v := ?_) (a' := ?_) #[true, true, true, true, true, true, true, false, false, false, false, false, false, false, false] rfl rfl (any_of HT_.out (by kernel_rfl)) (fun _ _ _ h => h) (Or.inl ⟨by rfl, ?_⟩) ?_ ?_
        rotate_left
        · intro w'
          go_simp
          with_reducible rfl
        rotate_left
        · simp only [Act.put, List.setIfInBounds_toArray, List.set_cons_zero, List.set_cons_succ, i64_w, i32_w]
          rfl
        refine pure_ (i := 7) (N := some 40) (v := ?_) (a' := ?_) #[true, true, true, true, true, true, true, true, false, false, false, false, false, false, false] rfl rfl (any_of HT_.out (by kernel_rfl)) (fun _ _ _ h => h) (Or.inl ⟨by rfl, ?_⟩) ?_ ?_
        rotate_left
        · intro w'
          go_simp
          with_reducible rfl
        rotate_left
        · simp only [Act.put, List.setIfInBounds_toArray, List.set_cons_zero, List.set_cons_succ, i64_w, i32_w]
          rfl
        refine pure_ (i := 8) (N := some 41) (v := ?_) (a' := ?_) #[true, true, true, true, true, true, true, true, true, false, false, false, false, false, false] rfl rfl (any_of HT_.out (by kernel_rfl)) (fun _ _ _ h => h) (Or.inl ⟨by rfl, ?_⟩) ?_ ?_
        rotate_left
        · intro w'
          go_simp
          with_reducible rfl
        rotate_left
        · simp only [Act.put, List.setIfInBounds_toArray, List.set_cons_zero, List.set_cons_succ, i64_w, i32_w]
          rfl
        refine pure_ (i := 9) (N := some 42) (v := undef) (a' := ?_) #[true, true, true, true, true, true, true, true, true, true, false, false, false, false, false] rfl rfl (any_of HT_.out (by kernel_rfl)) (fun _ _ _ h => h) (Or.inr ⟨by rfl, rfl⟩) ?_ ?_
        rotate_left
        · simp only [Act.put, List.setIfInBounds_toArray, List.set_cons_zero, List.set_cons_succ, i64_w, i32_w]
          rfl
        refine pure_ (i := 10) (N := some 43) (v := undef) (a' := ?_) #[true, true, true, true, true, true, true, true, true, true, true, false, false, false, false] rfl rfl (any_of HT_.out (by kernel_rfl)) (fun _ _ _ h => h) (Or.inr ⟨by rfl, rfl⟩) ?_ ?_
        rotate_left
        · simp only [Act.put, List.setIfInBounds_toArray, List.set_cons_zero, List.set_cons_succ, i64_w, i32_w]
          rfl
        refine pure_ (i := 11) (N := some 44) (v := undef) (a' := ?_) #[true, true, true, true, true, true, true, true, true, true, true, true, false, false, false] rfl rfl (any_of HT_.out (by kernel_rfl)) (fun _ _ _ h => h) (Or.inr ⟨by rfl, rfl⟩) ?_ ?_
        rotate_left
        · simp only [Act.put, List.setIfInBounds_toArray, List.set_cons_zero, List.set_cons_succ, i64_w, i32_w]
          rfl
        refine pure_ (i := 12) (N := some 45) (v := undef) (a' := ?_) #[true, true, true, true, true, true, true, true, true, true, true, true, true, false, false] rfl rfl (any_of HT_.out (by kernel_rfl)) (fun _ _ _ h => h) (Or.inr ⟨by rfl, rfl⟩) ?_ ?_
        rotate_left
        · simp only [Act.put, List.setIfInBounds_toArray, List.set_cons_zero, List.set_cons_succ, i64_w, i32_w]
          rfl
        refine pure_ (i := 13) (N := some 46) (v := undef) (a' := ?_) #[true, true, true, true, true, true, true, true, true, true, true, true, true, true, false] rfl rfl (any_of HT_.out (by kernel_rfl)) (fun _ _ _ h => h) (Or.inr ⟨by rfl, rfl⟩) ?_ ?_
        rotate_left
        · simp only [Act.put, List.setIfInBounds_toArray, List.set_cons_zero, List.set_cons_succ, i64_w, i32_w]
          rfl
        refine pure_ (i := 14) (N := some 47) (v := ?_) (a' := ?_) #[true, true, true, true, true, true, true, true, true, true, true, true, true, true, true] rfl rfl (any_of HT_.out (by kernel_rfl)) (fun _ _ _ h => h) (Or.inl ⟨by rfl, ?_⟩) ?_ ?_
        rotate_left
        · intro w'
          go_simp
          with_reducible rfl
        rotate_left
        · simp only [Act.put, List.setIfInBounds_toArray, List.set_cons_zero, List.set_cons_succ, i64_w, i32_w]
          rfl
        refine done_ (done_of HT_.out (by kernel_rfl)) ?_
        try go_wp2
        go_ret
        exact ⟨by first | rfl | (simp [errW_none, errW_some] <;> rfl) | (simp [*, errW_none, errW_some] <;> rfl), by repeat (first | (with_reducible first | exact HB.out | apply below_alloc | apply pw_below_drewN | apply below_drew1 | refine below_set ?_ GE163.out | refine below_set ?_ GE164.out | refine below_set ?_ GE169.out | refine below_set ?_ GE173.out) | exact HB.out)⟩
  · replace c5 := Bool.eq_false_iff.mpr c5
    subst c5
    have H1 : (some false) = some r := by rw [if_neg (show ¬ (false = true) by decide)] at H; exact H
    clear H
    have H := H1
    clear H1
    obtain rfl := Option.some.inj H
    go_enter Try.func3, Try.ntmps3
    go_wp2_with (first | ((with_reducible refine gate_dst (N := 3) rfl ?_); refine box_event ?hg (N := 3) ?hd (cs := #[.int .i64 a0_0, .int .i64 a0_1, .int .i64 a0_2, .int .i64 a0_3]) (t := 23) ?hr ?_; (case hd => rfl); (case hg => rfl); (case hr => first | (go_simp; done) | (go_simp; rfl)); intro gb163 hg w107 hbox hb; have n0_ := Aside0.mk (below_step (by repeat (first | (with_reducible first | exact HB.out | apply below_alloc | apply pw_below_drewN | apply below_drew1) | exact HB.out)) hb); have n1_ := Aside0.mk (hbox); have n2_ := Aside0.mk ((by rw [hg]; exact (below_size (by repeat (first | (with_reducible first | exact HB.out | apply below_alloc | apply pw_below_drewN | apply below_drew1) | exact HB.out))) : w.heap.size ≤ gb163)); have n3_ := Aside0.mk ((by rw [hg]; exact (below_size (by repeat (first | (with_reducible first | exact HB.out | apply below_alloc | apply pw_below_drewN | apply below_drew1) | exact HB.out))) : w.heap.size ≤ gb163)); clear HB; have HB := n0_; have BK163 := n1_; have GW163 := n2_; have GE163 := n3_; clear n0_ n1_ n2_ n3_; clear hb hbox hg) | ((with_reducible refine gate_dst (N := 5) rfl ?_); refine box_event ?hg (N := 5) ?hd (cs := #[.int .i64 a2_0, .int .i64 a2_1, .int .i64 a2_2]) (t := 24) ?hr ?_; (case hd => rfl); (case hg => rfl); (case hr => first | (go_simp; done) | (go_simp; rfl)); intro gb164 hg w108 hbox hb; have n0_ := Aside0.mk (blk_below (g := gb163) (o := .cells #[.int .i64 a0_0, .int .i64 a0_1, .int .i64 a0_2, .int .i64 a0_3] 23 (0, 0)) (by (with_reducible repeat (first | refine blk_drewN ?_ _ | refine blk_drew ?_ | refine blk_alloc ?_ _)); exact BK163.out) hb); have n1_ := Aside0.mk (below_step (by repeat (first | (with_reducible first | exact HB.out | apply below_alloc | apply pw_below_drewN | apply below_drew1 | refine below_set ?_ GE163.out) | exact HB.out)) hb); have n2_ := Aside0.mk (hbox); have n3_ := Aside0.mk ((by rw [hg]; exact (below_size (by repeat (first | (with_reducible first | exact HB.out | apply below_alloc | apply pw_below_drewN | apply below_drew1 | refine below_set ?_ GE163.out) | exact HB.out))) : w.heap.size ≤ gb164)); have n4_ := Aside0.mk ((by rw [hg]; exact (below_size (by repeat (first | (with_reducible first | exact HB.out | apply below_alloc | apply pw_below_drewN | apply below_drew1 | refine below_set ?_ GE163.out) | exact HB.out))) : w.heap.size ≤ gb164)); have n5_ := Aside0.mk ((by rw [hg]; exact Nat.ne_of_lt (blk_lt (g := gb163) (o := .cells #[.int .i64 a0_0, .int .i64 a0_1, .int .i64 a0_2, .int .i64 a0_3] 23 (0, 0)) (by (with_reducible repeat (first | refine blk_drewN ?_ _ | refine blk_drew ?_ | refine blk_alloc ?_ _)); exact BK163.out)) : gb163 ≠ gb164)); have n6_ := Aside0.mk ((by rw [hg]; exact Nat.ne_of_gt (blk_lt (g := gb163) (o := .cells #[.int .i64 a0_0, .int .i64 a0_1, .int .i64 a0_2, .int .i64 a0_3] 23 (0, 0)) (by (with_reducible repeat (first | refine blk_drewN ?_ _ | refine blk_drew ?_ | refine blk_alloc ?_ _)); exact BK163.out)) : gb164 ≠ gb163)); clear BK163; clear HB; have BK163 := n0_; have HB := n1_; have BK164 := n2_; have GW164 := n3_; have GE164 := n4_; have NB163_164 := n5_; have NB164_163 := n6_; clear n0_ n1_ n2_ n3_ n4_ n5_ n6_; clear hb hbox hg) | ((with_reducible refine gate_callee (f := 4) rfl ?_); refine goesL_ (some 11) rfl rfl Try.func4 (by kernel_rfl) rfl #[] rfl (by (try simp only [List.map_toArray, List.map_cons, List.map_nil]); first | done | rfl | (simp only [List.length_drop, List.length_take]; rfl)) ?_; (with_reducible refine (pochoirlaw25_awake.calls k  false _ A4.out).mono ?_); rintro e w109 ⟨rfl, hb⟩; refine ⟨_, rfl, ?_⟩; have n0_ := Aside0.mk (blk_below (g := gb163) (o := .cells #[.int .i64 a0_0, .int .i64 a0_1, .int .i64 a0_2, .int .i64 a0_3] 23 (0, 0)) (by (with_reducible repeat (first | refine blk_drewN ?_ _ | refine blk_drew ?_ | refine blk_alloc ?_ _)); exact BK163.out) hb); have n1_ := Aside0.mk (blk_below (g := gb164) (o := .cells #[.int .i64 a2_0, .int .i64 a2_1, .int .i64 a2_2] 24 (0, 0)) (by (with_reducible repeat (first | refine blk_drewN ?_ _ | refine blk_drew ?_ | refine blk_alloc ?_ _)); exact BK164.out) hb); have n2_ := Aside0.mk (below_step (by repeat (first | (with_reducible first | exact HB.out | apply below_alloc | apply pw_below_drewN | apply below_drew1 | refine below_set ?_ GE163.out | refine below_set ?_ GE164.out) | exact HB.out)) hb); clear BK163; clear BK164; clear HB; have BK163 := n0_; have BK164 := n1_; have HB := n2_; clear n0_ n1_ n2_; (try clear hb); (try clear hb2); (try clear hk); (try clear hi)))
    go_ret
    exact ⟨by first | rfl | (simp [errW_none, errW_some] <;> rfl) | (simp [*, errW_none, errW_some] <;> rfl), by repeat (first | (with_reducible first | exact HB.out | apply below_alloc | apply pw_below_drewN | apply below_drew1 | refine below_set ?_ GE163.out | refine below_set ?_ GE164.out) | exact HB.out)⟩

end Go.Proofs.Ythimbpoeoegehaa.Pr
