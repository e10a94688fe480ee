-- printed by a program of this session's (wip/mp.sh), out of the translation; the texts of its folder 'given' are typed by hand
import Derived.Test.YthimbpoeoegehaaPr0
import Derived.Test.YthimbpoeoegehaaPr3
import Derived.Test.YthimbpoeoegehaaPr5
import Derived.Test.YthimbpoeoegehaaPr7
import Derived.Test.YthimbpoeoegehaaPr8
namespace Go.Proofs.Ythimbpoeoegehaa.Pr
open Go.RowKit Go.Proofs.YthimbpoeoegehaaW.PrintWords Go.Proofs.YthimbpoeoegehaaW.PrintLast Go.Proofs.YthimbpoeoegehaaW.PrintMore
attribute [local go_sem] max2_int min2_int max_two min_two max_three min_three max_four min_four   -- for this text's walks alone
set_option linter.unusedVariables false
set_option linter.unusedSimpArgs false

/-! ### cell_Of: function 10 -/
def cell_Of.j0 : Nat → List (S37) → Int → Int → Bool → Option (Int × Int × Int × Int × Int)
  | 0, _, _, _, _ => none
  | k + 1, x0, x1, x2, x25 => if x25 = true then (some (0, 0, 0, 0, 1)) else ((edge_Box.f x0).bind fun bt145 => (if bt145.2.2.2.2 = true then ((cell_floor.f bt145.1 (wrap64 (2 * x1))).bind fun t152 => ((cell_floor.f bt145.2.1 (wrap64 (2 * x1))).bind fun t153 => ((cell_floor.f (wrap64 (-bt145.2.2.1)) (wrap64 (2 * x1))).bind fun t155 => ((cell_floor.f (wrap64 (-bt145.2.2.2.1)) (wrap64 (2 * x1))).bind fun t156 => (if (mx (wrap64 ((wrap64 (x2 - t155)) - (wrap64 (t152 - x2)))) (wrap64 ((wrap64 (x2 - t156)) - (wrap64 (t153 - x2))))) > 256 then (some (0, 0, 0, 0, 11)) else ((cell_middle.f (wrap64 (t152 - x2)) (wrap64 (t153 - x2)) (wrap64 ((wrap64 (x2 - t155)) - (wrap64 (t152 - x2)))) (wrap64 ((wrap64 (x2 - t156)) - (wrap64 (t153 - x2)))) x1 0 0).bind fun bt157 => ((plane_May.f bt157.1 bt157.2).bind fun t159 => (if t159 = true then ((cell_middle.f (wrap64 (t152 - x2)) (wrap64 (t153 - x2)) (wrap64 ((wrap64 (x2 - t155)) - (wrap64 (t152 - x2)))) (wrap64 ((wrap64 (x2 - t156)) - (wrap64 (t153 - x2)))) x1 (wrap64 ((wrap64 ((wrap64 (x2 - t155)) - (wrap64 (t152 - x2)))) - 1)) (wrap64 ((wrap64 ((wrap64 (x2 - t156)) - (wrap64 (t153 - x2)))) - 1))).bind fun bt160 => ((plane_May.f bt160.1 bt160.2).bind fun t162 => (if t162 = true then (some (wrap64 (t152 - x2), wrap64 (t153 - x2), wrap64 ((wrap64 (x2 - t155)) - (wrap64 (t152 - x2))), wrap64 ((wrap64 (x2 - t156)) - (wrap64 (t153 - x2))), 0)) else (some (0, 0, 0, 0, 11))))) else (some (0, 0, 0, 0, 11)))))))))) else (some (0, 0, 0, 0, 0))))
def cell_Of.g (k : Nat) (l0 : List (S37)) (a1 : Int) (a2 : Int) : Option (Int × Int × Int × Int × Int) := (edge_May.f k l0).bind fun t142 => (if t142 = true then ((cell_em.f a1).bind fun t143 => (if t143 = true then ((cell_within.f a2 1 16).bind fun t144 => (cell_Of.j0 k l0 a1 a2 (!t144))) else (cell_Of.j0 k l0 a1 a2 true))) else (cell_Of.j0 k l0 a1 a2 true))
theorem cell_Of.mono_l : ∀ k, (∀ y0 y1 y2 y3, LeO (cell_Of.j0 k y0 y1 y2 y3) (cell_Of.j0 (k + 1) y0 y1 y2 y3))
  | 0 => fun _ _ _ _ r h => by simp [cell_Of.j0] at h
  | k + 1 => by
    have ih0 := cell_Of.mono_l k
    · intro y0 y1 y2 y3
      unfold cell_Of.j0
      repeat' first
      | (with_reducible exact ih0 _ _ _ _)
      | (with_reducible exact edge_May.mono _ _)
      | (with_reducible exact LeO.refl _)
      | (with_reducible exact LeO.none _)
      | (with_reducible refine LeO.ite ?_ ?_)
      | (with_reducible refine LeO.bind ?_ (fun _ => ?_))
      | exact ih0 _ _ _ _
      | exact edge_May.mono _ _
      | exact LeO.none _
      | refine LeO.ite ?_ ?_
      | refine LeO.bind ?_ (fun _ => ?_)
theorem cell_Of.gmono : ∀ a0 a1 a2 k, LeO (cell_Of.g k a0 a1 a2) (cell_Of.g (k + 1) a0 a1 a2) := by
  intro a0 a1 a2 k
  have ih0 := cell_Of.mono_l k
  unfold cell_Of.g
  repeat' first
      | (with_reducible exact ih0 _ _ _ _)
      | (with_reducible exact edge_May.mono _ _)
      | (with_reducible exact LeO.refl _)
      | (with_reducible exact LeO.none _)
      | (with_reducible refine LeO.ite ?_ ?_)
      | (with_reducible refine LeO.bind ?_ (fun _ => ?_))
      | exact ih0 _ _ _ _
      | exact edge_May.mono _ _
      | exact LeO.none _
      | refine LeO.ite ?_ ?_
      | refine LeO.bind ?_ (fun _ => ?_)
def cell_Of.T7 : Bool × List (List Nat × List Nat) := (true, [([], []), ([0], [0]), ([], []), ([1, 2], [1, 2]), ([], []), ([3, 4], [3, 4]), ([], []), ([6], [6]), ([], []), ([7, 8, 3], [7, 8]), ([], []), ([9, 10], [9, 10]), ([5, 11], [5, 11]), ([], []), ([13, 12, 9, 0, 1, 2, 3, 4, 5, 6, 7, 8, 9, 10, 11, 12, 13], [12, 13])])
def cell_Of.B7 : List Nat := [0, 1, 0, 7, 0, 31, 0, 64, 0, 463, 0, 1999, 4095, 0, 16383]
theorem cell_Of.tab7 : rtab .any (opsOf Try.f10 7) = cell_Of.T7 := by kernel_rfl
theorem cell_Of.bits7 : waitsOk cell_Of.T7.2 cell_Of.B7 = true := by kernel_rfl
def cell_Of.T8 : Bool × List (List Nat × List Nat) := (true, [([], []), ([], []), ([1], [1]), ([2], [2]), ([], []), ([3, 4], [3, 4]), ([0, 5], [0, 5]), ([], []), ([7], [7]), ([6, 8], [6, 8]), ([], []), ([], []), ([11], [11]), ([12], [12]), ([], []), ([13, 14, 5], [13, 14]), ([10, 15], [10, 15]), ([], []), ([17], [17]), ([16, 18], [16, 18]), ([0, 1, 2, 3, 4, 5, 6, 7, 8, 9, 17, 18], []), ([20, 9, 15, 0, 1, 2, 3, 4, 5, 6, 7, 8, 9, 17, 18], [9, 20]), ([0, 1, 2, 3, 4, 5, 6, 7, 8, 9, 10, 11, 12, 13, 14, 15, 16, 17, 18, 19, 20, 21], []), ([22, 19, 21, 0, 1, 2, 3, 4, 5, 6, 7, 8, 9, 10, 11, 12, 13, 14, 15, 16, 17, 18, 19, 20, 21], [19, 22])])
def cell_Of.B8 : List Nat := [0, 0, 2, 6, 0, 30, 63, 0, 128, 511, 0, 0, 2048, 6144, 0, 30782, 64574, 0, 131072, 523326, 394239, 1506303, 4194303, 8388607]
theorem cell_Of.tab8 : rtab .any (opsOf Try.f10 8) = cell_Of.T8 := by kernel_rfl
theorem cell_Of.bits8 : waitsOk cell_Of.T8.2 cell_Of.B8 = true := by kernel_rfl
set_option maxHeartbeats 8000000 in
set_option maxRecDepth 100000 in
theorem cell_Of.gcalls (k : Nat) (A0 : Option Addr) (c0 : Nat) (l0 : List (S37)) (a1 : Int) (a2 : Int) (r1 : Int) (r2 : Int) (r3 : Int) (r4 : Int) (r5 : Int) (w : World) (hr0 : Kd.C k37 w A0 l0.length l0) (hc0 : l0.length ≤ c0) (hkeep : r5 = 0 ∧ r3 ≠ 0) (h : cell_Of.g k l0 a1 a2 = some (r1, r2, r3, r4, r5)) :
    Calls Try.prog 10 #[.slice A0 l0.length c0, .int .i64 a1, .int .i64 a2] w fun e w' => e = .returned (.tuple #[.agg #[.int .i64 r1, .int .i64 r2, .int .i64 r3, .int .i64 r4], .int .i64 r5]) ∧ Below w.heap.size w w' := by
  have HKP := Aside0.mk hkeep
  clear hkeep
  have hu23 := Try.underlying23
  have hu27 := Try.underlying27
  have HR0 := Aside0.mk hr0
  have HC0 := Aside0.mk hc0
  clear hr0 hc0
  have HB := Aside0.mk (Below.refl w.heap.size w)
  have H : ((edge_May.f k l0).bind fun t142 => (if t142 = true then ((cell_em.f a1).bind fun t143 => (if t143 = true then ((cell_within.f a2 1 16).bind fun t144 => (cell_Of.j0 k l0 a1 a2 (!t144))) else (cell_Of.j0 k l0 a1 a2 true))) else (cell_Of.j0 k l0 a1 a2 true))) = some (r1, r2, r3, r4, r5) := h
  clear h
  have HC4 := Aside0.mk H
  clear H
  go_enter Try.func10, Try.ntmps10
  go_upto_region 1 with (first | ((with_reducible refine gate_dst (N := 6) rfl ?_); refine box_event ?hg (N := 6) ?hd (cs := #[.int .i64 0, .int .i64 0, .int .i64 0, .int .i64 0]) (t := 23) ?hr ?_; (case hd => rfl); (case hg => rfl); (case hr => first | (go_simp; done) | (go_simp; rfl)); intro gb141 hg w5 hbox hb; have n0_ := Aside0.mk (below_step (by repeat (first | (with_reducible first | exact HB.out | apply below_alloc | apply pw_below_drewN | apply below_drew1) | exact HB.out)) hb); have n1_ := Aside0.mk (hbox); have n2_ := Aside0.mk ((by rw [hg]; exact (below_size (by repeat (first | (with_reducible first | exact HB.out | apply below_alloc | apply pw_below_drewN | apply below_drew1) | exact HB.out))) : w.heap.size ≤ gb141)); have n3_ := Aside0.mk ((by rw [hg]; exact (below_size (by repeat (first | (with_reducible first | exact HB.out | apply below_alloc | apply pw_below_drewN | apply below_drew1) | exact HB.out))) : w.heap.size ≤ gb141)); clear HB; have HB := n0_; have BK141 := n1_; have GW141 := n2_; have GE141 := n3_; clear n0_ n1_ n2_ n3_; clear hb hbox hg))
  (try simp only [Act.put, List.setIfInBounds_toArray, List.set_cons_zero, List.set_cons_succ])
  go_cut [25] (fun v25 wc => ∃ (kq : Nat) (x25_3 : Bool), v25 = .bool x25_3 ∧ Aside0 (cell_Of.j0 kq l0 a1 a2 x25_3 = some (r1, r2, r3, r4, r5)) ∧ Aside0 (kq ≤ k) ∧ Aside0 (wc.heap[gb141]? = some (.cells #[.int .i64 0, .int .i64 0, .int .i64 0, .int .i64 0] 23 (0, 0))) ∧ Aside0 (Below w.heap.size w wc))
  case first =>
    have H := HC4.out
    clear HC4
    replace H := Option.bind_eq_some_iff.mp H
    obtain ⟨t142, A60, H⟩ := H
    replace H : (if t142 = true then ((cell_em.f a1).bind fun t143 => (if t143 = true then ((cell_within.f a2 1 16).bind fun t144 => (cell_Of.j0 k l0 a1 a2 (!t144))) else (cell_Of.j0 k l0 a1 a2 true))) else (cell_Of.j0 k l0 a1 a2 true)) = some (r1, r2, r3, r4, r5) := H
    have A6 := Aside0.mk A60
    clear A60
    by_cases c7 : t142 = true
    · subst c7
      have H1 : ((cell_em.f a1).bind fun t143 => (if t143 = true then ((cell_within.f a2 1 16).bind fun t144 => (cell_Of.j0 k l0 a1 a2 (!t144))) else (cell_Of.j0 k l0 a1 a2 true))) = some (r1, r2, r3, r4, r5) := by rw [if_pos rfl] at H; exact H
      clear H
      have H := H1
      clear H1
      replace H := Option.bind_eq_some_iff.mp H
      obtain ⟨t143, A80, H⟩ := H
      replace H : (if t143 = true then ((cell_within.f a2 1 16).bind fun t144 => (cell_Of.j0 k l0 a1 a2 (!t144))) else (cell_Of.j0 k l0 a1 a2 true)) = some (r1, r2, r3, r4, r5) := H
      have A8 := Aside0.mk A80
      clear A80
      by_cases c9 : t143 = true
      · subst c9
        have H1 : ((cell_within.f a2 1 16).bind fun t144 => (cell_Of.j0 k l0 a1 a2 (!t144))) = some (r1, r2, r3, r4, r5) := by rw [if_pos rfl] at H; exact H
        clear H
        have H := H1
        clear H1
        replace H := Option.bind_eq_some_iff.mp H
        obtain ⟨t144, A100, H⟩ := H
        replace H : (cell_Of.j0 k l0 a1 a2 (!t144)) = some (r1, r2, r3, r4, r5) := H
        have A10 := Aside0.mk A100
        clear A100
        have H' := Aside0.mk H
        clear H
        go_wp2_with (first | ((with_reducible refine gate_callee (f := 18) rfl ?_); refine goesL_ (some 14) rfl rfl Try.func18 (by kernel_rfl) rfl #[.slice A0 l0.length c0] rfl (by (try simp only [List.map_toArray, List.map_cons, List.map_nil]); first | done | rfl | (simp only [List.length_drop, List.length_take]; rfl)) ?_; (with_reducible refine (edge_May.calls k _ _ l0 true _ ?side1 ?side2 A6.out).mono ?_); (case side1 => repeat (first | exact (Kd.C_below HR0.out HB.out) | (with_reducible refine Kd.C_alloc ?_ _) | (with_reducible refine Kd.C_drewN ?_ _) | (with_reducible refine Kd.C_drew ?_))); (case side2 => exact HC0.out); rintro e w11 ⟨rfl, hb⟩; refine ⟨_, rfl, ?_⟩; have n0_ := Aside0.mk (blk_below (g := gb141) (o := .cells #[.int .i64 0, .int .i64 0, .int .i64 0, .int .i64 0] 23 (0, 0)) (by (with_reducible repeat (first | refine blk_drewN ?_ _ | refine blk_drew ?_ | refine blk_alloc ?_ _)); exact BK141.out) hb); have n1_ := Aside0.mk (below_step (by repeat (first | (with_reducible first | exact HB.out | apply below_alloc | apply pw_below_drewN | apply below_drew1 | refine below_set ?_ GE141.out) | exact HB.out)) hb); clear BK141; clear HB; have BK141 := n0_; have HB := n1_; clear n0_ n1_; (try clear hb); (try clear hb2); (try clear hk); (try clear hi)) | (go_at_call 11; (with_reducible refine (cell_em.calls a1 true _ A8.out).mono ?_); rintro e w' ⟨rfl, ⟨nd, rfl⟩⟩) | (go_at_call 12; (with_reducible refine (cell_within.calls a2 1 16 t144 _ A10.out).mono ?_); rintro e w' ⟨rfl, ⟨nd, rfl⟩⟩))
        go_meet
        case rel => exact ⟨_, (!t144), (by first | rfl | (simp; done) | (simp [*]; done)), H', ⟨by first | omega | exact Nat.le_refl _⟩, ⟨by (with_reducible repeat (first | refine blk_drewN ?_ _ | refine blk_drew ?_ | refine blk_alloc ?_ _)); exact BK141.out⟩, ⟨by repeat (first | (with_reducible first | exact HB.out | apply below_alloc | apply pw_below_drewN | apply below_drew1 | refine below_set ?_ GE141.out) | exact HB.out)⟩⟩
      · replace c9 := Bool.eq_false_iff.mpr c9
        subst c9
        have H1 : (cell_Of.j0 k l0 a1 a2 true) = some (r1, r2, r3, r4, r5) := by rw [if_neg (show ¬ (false = true) by decide)] at H; exact H
        clear H
        have H := H1
        clear H1
        have H' := Aside0.mk H
        clear H
        go_wp2_with (first | ((with_reducible refine gate_callee (f := 18) rfl ?_); refine goesL_ (some 14) rfl rfl Try.func18 (by kernel_rfl) rfl #[.slice A0 l0.length c0] rfl (by (try simp only [List.map_toArray, List.map_cons, List.map_nil]); first | done | rfl | (simp only [List.length_drop, List.length_take]; rfl)) ?_; (with_reducible refine (edge_May.calls k _ _ l0 true _ ?side1 ?side2 A6.out).mono ?_); (case side1 => repeat (first | exact (Kd.C_below HR0.out HB.out) | (with_reducible refine Kd.C_alloc ?_ _) | (with_reducible refine Kd.C_drewN ?_ _) | (with_reducible refine Kd.C_drew ?_))); (case side2 => exact HC0.out); rintro e w12 ⟨rfl, hb⟩; refine ⟨_, rfl, ?_⟩; have n0_ := Aside0.mk (blk_below (g := gb141) (o := .cells #[.int .i64 0, .int .i64 0, .int .i64 0, .int .i64 0] 23 (0, 0)) (by (with_reducible repeat (first | refine blk_drewN ?_ _ | refine blk_drew ?_ | refine blk_alloc ?_ _)); exact BK141.out) hb); have n1_ := Aside0.mk (below_step (by repeat (first | (with_reducible first | exact HB.out | apply below_alloc | apply pw_below_drewN | apply below_drew1 | refine below_set ?_ GE141.out) | exact HB.out)) hb); clear BK141; clear HB; have BK141 := n0_; have HB := n1_; clear n0_ n1_; (try clear hb); (try clear hb2); (try clear hk); (try clear hi)) | (go_at_call 11; (with_reducible refine (cell_em.calls a1 false _ A8.out).mono ?_); rintro e w' ⟨rfl, ⟨nd, rfl⟩⟩))
        go_meet
        case rel => exact ⟨_, (true), (by first | rfl | (simp; done) | (simp [*]; done)), H', ⟨by first | omega | exact Nat.le_refl _⟩, ⟨by (with_reducible repeat (first | refine blk_drewN ?_ _ | refine blk_drew ?_ | refine blk_alloc ?_ _)); exact BK141.out⟩, ⟨by repeat (first | (with_reducible first | exact HB.out | apply below_alloc | apply pw_below_drewN | apply below_drew1 | refine below_set ?_ GE141.out) | exact HB.out)⟩⟩
    · replace c7 := Bool.eq_false_iff.mpr c7
      subst c7
      have H1 : (cell_Of.j0 k l0 a1 a2 true) = some (r1, r2, r3, r4, r5) := by rw [if_neg (show ¬ (false = true) by decide)] at H; exact H
      clear H
      have H := H1
      clear H1
      have H' := Aside0.mk H
      clear H
      go_wp2_with (first | ((with_reducible refine gate_callee (f := 18) rfl ?_); refine goesL_ (some 14) rfl rfl Try.func18 (by kernel_rfl) rfl #[.slice A0 l0.length c0] rfl (by (try simp only [List.map_toArray, List.map_cons, List.map_nil]); first | done | rfl | (simp only [List.length_drop, List.length_take]; rfl)) ?_; (with_reducible refine (edge_May.calls k _ _ l0 false _ ?side1 ?side2 A6.out).mono ?_); (case side1 => repeat (first | exact (Kd.C_below HR0.out HB.out) | (with_reducible refine Kd.C_alloc ?_ _) | (with_reducible refine Kd.C_drewN ?_ _) | (with_reducible refine Kd.C_drew ?_))); (case side2 => exact HC0.out); rintro e w13 ⟨rfl, hb⟩; refine ⟨_, rfl, ?_⟩; have n0_ := Aside0.mk (blk_below (g := gb141) (o := .cells #[.int .i64 0, .int .i64 0, .int .i64 0, .int .i64 0] 23 (0, 0)) (by (with_reducible repeat (first | refine blk_drewN ?_ _ | refine blk_drew ?_ | refine blk_alloc ?_ _)); exact BK141.out) hb); have n1_ := Aside0.mk (below_step (by repeat (first | (with_reducible first | exact HB.out | apply below_alloc | apply pw_below_drewN | apply below_drew1 | refine below_set ?_ GE141.out) | exact HB.out)) hb); clear BK141; clear HB; have BK141 := n0_; have HB := n1_; clear n0_ n1_; (try clear hb); (try clear hb2); (try clear hk); (try clear hi)))
      go_meet
      case rel => exact ⟨_, (true), (by first | rfl | (simp; done) | (simp [*]; done)), H', ⟨by first | omega | exact Nat.le_refl _⟩, ⟨by (with_reducible repeat (first | refine blk_drewN ?_ _ | refine blk_drew ?_ | refine blk_alloc ?_ _)); exact BK141.out⟩, ⟨by repeat (first | (with_reducible first | exact HB.out | apply below_alloc | apply pw_below_drewN | apply below_drew1 | refine below_set ?_ GE141.out) | exact HB.out)⟩⟩
  case rest =>
    clear HC4
    try clear c1
    try clear p2
    try clear c7
    try clear c9
    try clear c10
    obtain ⟨kq, x25_3, rfl, HA, HJ3, BK141, HB⟩ := hcut
    cases kq with
    | zero => exact absurd HA.out (by simp [cell_Of.j0])
    | succ kj3 =>
      have H := HA.out
      clear HA
      simp only [cell_Of.j0] at H
      by_cases c14 : x25_3 = true
      · subst c14
        have H1 : (some (0, 0, 0, 0, 1)) = some (r1, r2, r3, r4, r5) := by rw [if_pos rfl] at H; exact H
        clear H
        have H := H1
        clear H1
        simp only [Option.some.injEq, Prod.mk.injEq] at H
        obtain ⟨rfl, rfl, rfl, rfl, rfl⟩ := H
        exact absurd HKP.out (by decide)
      · replace c14 := Bool.eq_false_iff.mpr c14
        subst c14
        have H1 : ((edge_Box.f l0).bind fun bt145 => (if bt145.2.2.2.2 = true then ((cell_floor.f bt145.1 (wrap64 (2 * a1))).bind fun t152 => ((cell_floor.f bt145.2.1 (wrap64 (2 * a1))).bind fun t153 => ((cell_floor.f (wrap64 (-bt145.2.2.1)) (wrap64 (2 * a1))).bind fun t155 => ((cell_floor.f (wrap64 (-bt145.2.2.2.1)) (wrap64 (2 * a1))).bind fun t156 => (if (mx (wrap64 ((wrap64 (a2 - t155)) - (wrap64 (t152 - a2)))) (wrap64 ((wrap64 (a2 - t156)) - (wrap64 (t153 - a2))))) > 256 then (some (0, 0, 0, 0, 11)) else ((cell_middle.f (wrap64 (t152 - a2)) (wrap64 (t153 - a2)) (wrap64 ((wrap64 (a2 - t155)) - (wrap64 (t152 - a2)))) (wrap64 ((wrap64 (a2 - t156)) - (wrap64 (t153 - a2)))) a1 0 0).bind fun bt157 => ((plane_May.f bt157.1 bt157.2).bind fun t159 => (if t159 = true then ((cell_middle.f (wrap64 (t152 - a2)) (wrap64 (t153 - a2)) (wrap64 ((wrap64 (a2 - t155)) - (wrap64 (t152 - a2)))) (wrap64 ((wrap64 (a2 - t156)) - (wrap64 (t153 - a2)))) a1 (wrap64 ((wrap64 ((wrap64 (a2 - t155)) - (wrap64 (t152 - a2)))) - 1)) (wrap64 ((wrap64 ((wrap64 (a2 - t156)) - (wrap64 (t153 - a2)))) - 1))).bind fun bt160 => ((plane_May.f bt160.1 bt160.2).bind fun t162 => (if t162 = true then (some (wrap64 (t152 - a2), wrap64 (t153 - a2), wrap64 ((wrap64 (a2 - t155)) - (wrap64 (t152 - a2))), wrap64 ((wrap64 (a2 - t156)) - (wrap64 (t153 - a2))), 0)) else (some (0, 0, 0, 0, 11))))) else (some (0, 0, 0, 0, 11)))))))))) else (some (0, 0, 0, 0, 0)))) = some (r1, r2, r3, r4, r5) := by rw [if_neg (show ¬ (false = true) by decide)] at H; exact H
        clear H
        have H := H1
        clear H1
        replace H := Option.bind_eq_some_iff.mp H
        obtain ⟨⟨t145, t146, t147, t148, t149⟩, A160, H⟩ := H
        replace H : (if t149 = true then ((cell_floor.f t145 (wrap64 (2 * a1))).bind fun t152 => ((cell_floor.f t146 (wrap64 (2 * a1))).bind fun t153 => ((cell_floor.f (wrap64 (-t147)) (wrap64 (2 * a1))).bind fun t155 => ((cell_floor.f (wrap64 (-t148)) (wrap64 (2 * a1))).bind fun t156 => (if (mx (wrap64 ((wrap64 (a2 - t155)) - (wrap64 (t152 - a2)))) (wrap64 ((wrap64 (a2 - t156)) - (wrap64 (t153 - a2))))) > 256 then (some (0, 0, 0, 0, 11)) else ((cell_middle.f (wrap64 (t152 - a2)) (wrap64 (t153 - a2)) (wrap64 ((wrap64 (a2 - t155)) - (wrap64 (t152 - a2)))) (wrap64 ((wrap64 (a2 - t156)) - (wrap64 (t153 - a2)))) a1 0 0).bind fun bt157 => ((plane_May.f bt157.1 bt157.2).bind fun t159 => (if t159 = true then ((cell_middle.f (wrap64 (t152 - a2)) (wrap64 (t153 - a2)) (wrap64 ((wrap64 (a2 - t155)) - (wrap64 (t152 - a2)))) (wrap64 ((wrap64 (a2 - t156)) - (wrap64 (t153 - a2)))) a1 (wrap64 ((wrap64 ((wrap64 (a2 - t155)) - (wrap64 (t152 - a2)))) - 1)) (wrap64 ((wrap64 ((wrap64 (a2 - t156)) - (wrap64 (t153 - a2)))) - 1))).bind fun bt160 => ((plane_May.f bt160.1 bt160.2).bind fun t162 => (if t162 = true then (some (wrap64 (t152 - a2), wrap64 (t153 - a2), wrap64 ((wrap64 (a2 - t155)) - (wrap64 (t152 - a2))), wrap64 ((wrap64 (a2 - t156)) - (wrap64 (t153 - a2))), 0)) else (some (0, 0, 0, 0, 11))))) else (some (0, 0, 0, 0, 11)))))))))) else (some (0, 0, 0, 0, 0))) = some (r1, r2, r3, r4, r5) := H
        have A16 := Aside0.mk A160
        clear A160
        by_cases c17 : t149 = true
        · subst c17
          have H1 : ((cell_floor.f t145 (wrap64 (2 * a1))).bind fun t152 => ((cell_floor.f t146 (wrap64 (2 * a1))).bind fun t153 => ((cell_floor.f (wrap64 (-t147)) (wrap64 (2 * a1))).bind fun t155 => ((cell_floor.f (wrap64 (-t148)) (wrap64 (2 * a1))).bind fun t156 => (if (mx (wrap64 ((wrap64 (a2 - t155)) - (wrap64 (t152 - a2)))) (wrap64 ((wrap64 (a2 - t156)) - (wrap64 (t153 - a2))))) > 256 then (some (0, 0, 0, 0, 11)) else ((cell_middle.f (wrap64 (t152 - a2)) (wrap64 (t153 - a2)) (wrap64 ((wrap64 (a2 - t155)) - (wrap64 (t152 - a2)))) (wrap64 ((wrap64 (a2 - t156)) - (wrap64 (t153 - a2)))) a1 0 0).bind fun bt157 => ((plane_May.f bt157.1 bt157.2).bind fun t159 => (if t159 = true then ((cell_middle.f (wrap64 (t152 - a2)) (wrap64 (t153 - a2)) (wrap64 ((wrap64 (a2 - t155)) - (wrap64 (t152 - a2)))) (wrap64 ((wrap64 (a2 - t156)) - (wrap64 (t153 - a2)))) a1 (wrap64 ((wrap64 ((wrap64 (a2 - t155)) - (wrap64 (t152 - a2)))) - 1)) (wrap64 ((wrap64 ((wrap64 (a2 - t156)) - (wrap64 (t153 - a2)))) - 1))).bind fun bt160 => ((plane_May.f bt160.1 bt160.2).bind fun t162 => (if t162 = true then (some (wrap64 (t152 - a2), wrap64 (t153 - a2), wrap64 ((wrap64 (a2 - t155)) - (wrap64 (t152 - a2))), wrap64 ((wrap64 (a2 - t156)) - (wrap64 (t153 - a2))), 0)) else (some (0, 0, 0, 0, 11))))) else (some (0, 0, 0, 0, 11)))))))))) = some (r1, r2, r3, r4, r5) := by rw [if_pos rfl] at H; exact H
          clear H
          have H := H1
          clear H1
          replace H := Option.bind_eq_some_iff.mp H
          obtain ⟨t152, A180, H⟩ := H
          replace H : ((cell_floor.f t146 (wrap64 (2 * a1))).bind fun t153 => ((cell_floor.f (wrap64 (-t147)) (wrap64 (2 * a1))).bind fun t155 => ((cell_floor.f (wrap64 (-t148)) (wrap64 (2 * a1))).bind fun t156 => (if (mx (wrap64 ((wrap64 (a2 - t155)) - (wrap64 (t152 - a2)))) (wrap64 ((wrap64 (a2 - t156)) - (wrap64 (t153 - a2))))) > 256 then (some (0, 0, 0, 0, 11)) else ((cell_middle.f (wrap64 (t152 - a2)) (wrap64 (t153 - a2)) (wrap64 ((wrap64 (a2 - t155)) - (wrap64 (t152 - a2)))) (wrap64 ((wrap64 (a2 - t156)) - (wrap64 (t153 - a2)))) a1 0 0).bind fun bt157 => ((plane_May.f bt157.1 bt157.2).bind fun t159 => (if t159 = true then ((cell_middle.f (wrap64 (t152 - a2)) (wrap64 (t153 - a2)) (wrap64 ((wrap64 (a2 - t155)) - (wrap64 (t152 - a2)))) (wrap64 ((wrap64 (a2 - t156)) - (wrap64 (t153 - a2)))) a1 (wrap64 ((wrap64 ((wrap64 (a2 - t155)) - (wrap64 (t152 - a2)))) - 1)) (wrap64 ((wrap64 ((wrap64 (a2 - t156)) - (wrap64 (t153 - a2)))) - 1))).bind fun bt160 => ((plane_May.f bt160.1 bt160.2).bind fun t162 => (if t162 = true then (some (wrap64 (t152 - a2), wrap64 (t153 - a2), wrap64 ((wrap64 (a2 - t155)) - (wrap64 (t152 - a2))), wrap64 ((wrap64 (a2 - t156)) - (wrap64 (t153 - a2))), 0)) else (some (0, 0, 0, 0, 11))))) else (some (0, 0, 0, 0, 11))))))))) = some (r1, r2, r3, r4, r5) := H
          have A18 := Aside0.mk A180
          clear A180
          replace H := Option.bind_eq_some_iff.mp H
          obtain ⟨t153, A190, H⟩ := H
          replace H : ((cell_floor.f (wrap64 (-t147)) (wrap64 (2 * a1))).bind fun t155 => ((cell_floor.f (wrap64 (-t148)) (wrap64 (2 * a1))).bind fun t156 => (if (mx (wrap64 ((wrap64 (a2 - t155)) - (wrap64 (t152 - a2)))) (wrap64 ((wrap64 (a2 - t156)) - (wrap64 (t153 - a2))))) > 256 then (some (0, 0, 0, 0, 11)) else ((cell_middle.f (wrap64 (t152 - a2)) (wrap64 (t153 - a2)) (wrap64 ((wrap64 (a2 - t155)) - (wrap64 (t152 - a2)))) (wrap64 ((wrap64 (a2 - t156)) - (wrap64 (t153 - a2)))) a1 0 0).bind fun bt157 => ((plane_May.f bt157.1 bt157.2).bind fun t159 => (if t159 = true then ((cell_middle.f (wrap64 (t152 - a2)) (wrap64 (t153 - a2)) (wrap64 ((wrap64 (a2 - t155)) - (wrap64 (t152 - a2)))) (wrap64 ((wrap64 (a2 - t156)) - (wrap64 (t153 - a2)))) a1 (wrap64 ((wrap64 ((wrap64 (a2 - t155)) - (wrap64 (t152 - a2)))) - 1)) (wrap64 ((wrap64 ((wrap64 (a2 - t156)) - (wrap64 (t153 - a2)))) - 1))).bind fun bt160 => ((plane_May.f bt160.1 bt160.2).bind fun t162 => (if t162 = true then (some (wrap64 (t152 - a2), wrap64 (t153 - a2), wrap64 ((wrap64 (a2 - t155)) - (wrap64 (t152 - a2))), wrap64 ((wrap64 (a2 - t156)) - (wrap64 (t153 - a2))), 0)) else (some (0, 0, 0, 0, 11))))) else (some (0, 0, 0, 0, 11)))))))) = some (r1, r2, r3, r4, r5) := H
          have A19 := Aside0.mk A190
          clear A190
          replace H := Option.bind_eq_some_iff.mp H
          obtain ⟨t155, A200, H⟩ := H
          replace H : ((cell_floor.f (wrap64 (-t148)) (wrap64 (2 * a1))).bind fun t156 => (if (mx (wrap64 ((wrap64 (a2 - t155)) - (wrap64 (t152 - a2)))) (wrap64 ((wrap64 (a2 - t156)) - (wrap64 (t153 - a2))))) > 256 then (some (0, 0, 0, 0, 11)) else ((cell_middle.f (wrap64 (t152 - a2)) (wrap64 (t153 - a2)) (wrap64 ((wrap64 (a2 - t155)) - (wrap64 (t152 - a2)))) (wrap64 ((wrap64 (a2 - t156)) - (wrap64 (t153 - a2)))) a1 0 0).bind fun bt157 => ((plane_May.f bt157.1 bt157.2).bind fun t159 => (if t159 = true then ((cell_middle.f (wrap64 (t152 - a2)) (wrap64 (t153 - a2)) (wrap64 ((wrap64 (a2 - t155)) - (wrap64 (t152 - a2)))) (wrap64 ((wrap64 (a2 - t156)) - (wrap64 (t153 - a2)))) a1 (wrap64 ((wrap64 ((wrap64 (a2 - t155)) - (wrap64 (t152 - a2)))) - 1)) (wrap64 ((wrap64 ((wrap64 (a2 - t156)) - (wrap64 (t153 - a2)))) - 1))).bind fun bt160 => ((plane_May.f bt160.1 bt160.2).bind fun t162 => (if t162 = true then (some (wrap64 (t152 - a2), wrap64 (t153 - a2), wrap64 ((wrap64 (a2 - t155)) - (wrap64 (t152 - a2))), wrap64 ((wrap64 (a2 - t156)) - (wrap64 (t153 - a2))), 0)) else (some (0, 0, 0, 0, 11))))) else (some (0, 0, 0, 0, 11))))))) = some (r1, r2, r3, r4, r5) := H
          have A20 := Aside0.mk A200
          clear A200
          replace H := Option.bind_eq_some_iff.mp H
          obtain ⟨t156, A210, H⟩ := H
          replace H : (if (mx (wrap64 ((wrap64 (a2 - t155)) - (wrap64 (t152 - a2)))) (wrap64 ((wrap64 (a2 - t156)) - (wrap64 (t153 - a2))))) > 256 then (some (0, 0, 0, 0, 11)) else ((cell_middle.f (wrap64 (t152 - a2)) (wrap64 (t153 - a2)) (wrap64 ((wrap64 (a2 - t155)) - (wrap64 (t152 - a2)))) (wrap64 ((wrap64 (a2 - t156)) - (wrap64 (t153 - a2)))) a1 0 0).bind fun bt157 => ((plane_May.f bt157.1 bt157.2).bind fun t159 => (if t159 = true then ((cell_middle.f (wrap64 (t152 - a2)) (wrap64 (t153 - a2)) (wrap64 ((wrap64 (a2 - t155)) - (wrap64 (t152 - a2)))) (wrap64 ((wrap64 (a2 - t156)) - (wrap64 (t153 - a2)))) a1 (wrap64 ((wrap64 ((wrap64 (a2 - t155)) - (wrap64 (t152 - a2)))) - 1)) (wrap64 ((wrap64 ((wrap64 (a2 - t156)) - (wrap64 (t153 - a2)))) - 1))).bind fun bt160 => ((plane_May.f bt160.1 bt160.2).bind fun t162 => (if t162 = true then (some (wrap64 (t152 - a2), wrap64 (t153 - a2), wrap64 ((wrap64 (a2 - t155)) - (wrap64 (t152 - a2))), wrap64 ((wrap64 (a2 - t156)) - (wrap64 (t153 - a2))), 0)) else (some (0, 0, 0, 0, 11))))) else (some (0, 0, 0, 0, 11)))))) = some (r1, r2, r3, r4, r5) := H
          have A21 := Aside0.mk A210
          clear A210
          obtain ⟨ji22, hji22⟩ : ∃ j_ : Int, (mx (wrap64 ((wrap64 (a2 - t155)) - (wrap64 (t152 - a2)))) (wrap64 ((wrap64 (a2 - t156)) - (wrap64 (t153 - a2))))) = j_ := ⟨_, rfl⟩
          replace H : (if (ji22) > 256 then (some (0, 0, 0, 0, 11)) else ((cell_middle.f (wrap64 (t152 - a2)) (wrap64 (t153 - a2)) (wrap64 ((wrap64 (a2 - t155)) - (wrap64 (t152 - a2)))) (wrap64 ((wrap64 (a2 - t156)) - (wrap64 (t153 - a2)))) a1 0 0).bind fun bt157 => ((plane_May.f bt157.1 bt157.2).bind fun t159 => (if t159 = true then ((cell_middle.f (wrap64 (t152 - a2)) (wrap64 (t153 - a2)) (wrap64 ((wrap64 (a2 - t155)) - (wrap64 (t152 - a2)))) (wrap64 ((wrap64 (a2 - t156)) - (wrap64 (t153 - a2)))) a1 (wrap64 ((wrap64 ((wrap64 (a2 - t155)) - (wrap64 (t152 - a2)))) - 1)) (wrap64 ((wrap64 ((wrap64 (a2 - t156)) - (wrap64 (t153 - a2)))) - 1))).bind fun bt160 => ((plane_May.f bt160.1 bt160.2).bind fun t162 => (if t162 = true then (some (wrap64 (t152 - a2), wrap64 (t153 - a2), wrap64 ((wrap64 (a2 - t155)) - (wrap64 (t152 - a2))), wrap64 ((wrap64 (a2 - t156)) - (wrap64 (t153 - a2))), 0)) else (some (0, 0, 0, 0, 11))))) else (some (0, 0, 0, 0, 11)))))) = some (r1, r2, r3, r4, r5) := by first | (rw [hji22] at H; exact H) | (simp only [hji22] at H ⊢; exact H)
          (try rw [hji22] at A16)
          (try rw [hji22] at A18)
          (try rw [hji22] at A19)
          (try rw [hji22] at A20)
          (try rw [hji22] at A21)
          have hji22_ : (if (wrap64 ((wrap64 (a2 - t155)) - (wrap64 (t152 - a2)))) < (wrap64 ((wrap64 (a2 - t156)) - (wrap64 (t153 - a2)))) then (wrap64 ((wrap64 (a2 - t156)) - (wrap64 (t153 - a2)))) else (wrap64 ((wrap64 (a2 - t155)) - (wrap64 (t152 - a2))))) = ji22 := hji22
          by_cases c23 : (ji22) > 256
          · rw [if_pos c23] at H
            have c23b0 : decide (256 < (ji22)) = true := decide_eq_true c23
            clear c23
            simp only [Option.some.injEq, Prod.mk.injEq] at H
            obtain ⟨rfl, rfl, rfl, rfl, rfl⟩ := H
            exact absurd HKP.out (by decide)
          · rw [if_neg c23] at H
            have c23b0 : decide (256 < (ji22)) = false := decide_eq_false c23
            clear c23
            replace H := Option.bind_eq_some_iff.mp H
            obtain ⟨⟨t157, t158⟩, A490, H⟩ := H
            replace H : ((plane_May.f t157 t158).bind fun t159 => (if t159 = true then ((cell_middle.f (wrap64 (t152 - a2)) (wrap64 (t153 - a2)) (wrap64 ((wrap64 (a2 - t155)) - (wrap64 (t152 - a2)))) (wrap64 ((wrap64 (a2 - t156)) - (wrap64 (t153 - a2)))) a1 (wrap64 ((wrap64 ((wrap64 (a2 - t155)) - (wrap64 (t152 - a2)))) - 1)) (wrap64 ((wrap64 ((wrap64 (a2 - t156)) - (wrap64 (t153 - a2)))) - 1))).bind fun bt160 => ((plane_May.f bt160.1 bt160.2).bind fun t162 => (if t162 = true then (some (wrap64 (t152 - a2), wrap64 (t153 - a2), wrap64 ((wrap64 (a2 - t155)) - (wrap64 (t152 - a2))), wrap64 ((wrap64 (a2 - t156)) - (wrap64 (t153 - a2))), 0)) else (some (0, 0, 0, 0, 11))))) else (some (0, 0, 0, 0, 11)))) = some (r1, r2, r3, r4, r5) := H
            have A49 := Aside0.mk A490
            clear A490
            replace H := Option.bind_eq_some_iff.mp H
            obtain ⟨t159, A500, H⟩ := H
            replace H : (if t159 = true then ((cell_middle.f (wrap64 (t152 - a2)) (wrap64 (t153 - a2)) (wrap64 ((wrap64 (a2 - t155)) - (wrap64 (t152 - a2)))) (wrap64 ((wrap64 (a2 - t156)) - (wrap64 (t153 - a2)))) a1 (wrap64 ((wrap64 ((wrap64 (a2 - t155)) - (wrap64 (t152 - a2)))) - 1)) (wrap64 ((wrap64 ((wrap64 (a2 - t156)) - (wrap64 (t153 - a2)))) - 1))).bind fun bt160 => ((plane_May.f bt160.1 bt160.2).bind fun t162 => (if t162 = true then (some (wrap64 (t152 - a2), wrap64 (t153 - a2), wrap64 ((wrap64 (a2 - t155)) - (wrap64 (t152 - a2))), wrap64 ((wrap64 (a2 - t156)) - (wrap64 (t153 - a2))), 0)) else (some (0, 0, 0, 0, 11))))) else (some (0, 0, 0, 0, 11))) = some (r1, r2, r3, r4, r5) := H
            have A50 := Aside0.mk A500
            clear A500
            by_cases c51 : t159 = true
            · subst c51
              have H1 : ((cell_middle.f (wrap64 (t152 - a2)) (wrap64 (t153 - a2)) (wrap64 ((wrap64 (a2 - t155)) - (wrap64 (t152 - a2)))) (wrap64 ((wrap64 (a2 - t156)) - (wrap64 (t153 - a2)))) a1 (wrap64 ((wrap64 ((wrap64 (a2 - t155)) - (wrap64 (t152 - a2)))) - 1)) (wrap64 ((wrap64 ((wrap64 (a2 - t156)) - (wrap64 (t153 - a2)))) - 1))).bind fun bt160 => ((plane_May.f bt160.1 bt160.2).bind fun t162 => (if t162 = true then (some (wrap64 (t152 - a2), wrap64 (t153 - a2), wrap64 ((wrap64 (a2 - t155)) - (wrap64 (t152 - a2))), wrap64 ((wrap64 (a2 - t156)) - (wrap64 (t153 - a2))), 0)) else (some (0, 0, 0, 0, 11))))) = some (r1, r2, r3, r4, r5) := by rw [if_pos rfl] at H; exact H
              clear H
              have H := H1
              clear H1
              replace H := Option.bind_eq_some_iff.mp H
              obtain ⟨⟨t160, t161⟩, A520, H⟩ := H
              replace H : ((plane_May.f t160 t161).bind fun t162 => (if t162 = true then (some (wrap64 (t152 - a2), wrap64 (t153 - a2), wrap64 ((wrap64 (a2 - t155)) - (wrap64 (t152 - a2))), wrap64 ((wrap64 (a2 - t156)) - (wrap64 (t153 - a2))), 0)) else (some (0, 0, 0, 0, 11)))) = some (r1, r2, r3, r4, r5) := H
              have A52 := Aside0.mk A520
              clear A520
              replace H := Option.bind_eq_some_iff.mp H
              obtain ⟨t162, A530, H⟩ := H
              replace H : (if t162 = true then (some (wrap64 (t152 - a2), wrap64 (t153 - a2), wrap64 ((wrap64 (a2 - t155)) - (wrap64 (t152 - a2))), wrap64 ((wrap64 (a2 - t156)) - (wrap64 (t153 - a2))), 0)) else (some (0, 0, 0, 0, 11))) = some (r1, r2, r3, r4, r5) := H
              have A53 := Aside0.mk A530
              clear A530
              by_cases c54 : t162 = true
              · subst c54
                have H1 : (some (wrap64 (t152 - a2), wrap64 (t153 - a2), wrap64 ((wrap64 (a2 - t155)) - (wrap64 (t152 - a2))), wrap64 ((wrap64 (a2 - t156)) - (wrap64 (t153 - a2))), 0)) = some (r1, r2, r3, r4, r5) := by rw [if_pos rfl] at H; exact H
                clear H
                have H := H1
                clear H1
                simp only [Option.some.injEq, Prod.mk.injEq] at H
                obtain ⟨rfl, rfl, rfl, rfl, rfl⟩ := H
                try go_wp2_with (first | ((with_reducible refine gate_callee (f := 19) rfl ?_); refine goesL_ (some 29) rfl rfl Try.func19 (by kernel_rfl) rfl #[.slice A0 l0.length c0] rfl (by (try simp only [List.map_toArray, List.map_cons, List.map_nil]); first | done | rfl | (simp only [List.length_drop, List.length_take]; rfl)) ?_; (with_reducible refine (edge_Box.calls _ _ l0 t145 t146 t147 t148 true _ ?side1 ?side2 A16.out).mono ?_); (case side1 => repeat (first | exact (Kd.C_below HR0.out HB.out) | (with_reducible refine Kd.C_alloc ?_ _) | (with_reducible refine Kd.C_drewN ?_ _) | (with_reducible refine Kd.C_drew ?_))); (case side2 => exact HC0.out); rintro e w55 ⟨rfl, hb⟩; refine ⟨_, rfl, ?_⟩; have n0_ := Aside0.mk (blk_below (g := gb141) (o := .cells #[.int .i64 0, .int .i64 0, .int .i64 0, .int .i64 0] 23 (0, 0)) (by (with_reducible repeat (first | refine blk_drewN ?_ _ | refine blk_drew ?_ | refine blk_alloc ?_ _)); exact BK141.out) hb); have n1_ := Aside0.mk (below_step (by repeat (first | (with_reducible first | exact HB.out | apply below_alloc | apply pw_below_drewN | apply below_drew1 | refine below_set ?_ GE141.out) | exact HB.out)) hb); clear BK141; clear HB; have BK141 := n0_; have HB := n1_; clear n0_ n1_; (try clear hb); (try clear hb2); (try clear hk); (try clear hi)) | ((with_reducible refine gate_dst (N := 8) rfl ?_); refine box_event ?hg (N := 8) ?hd (cs := #[.int .i64 0, .int .i64 0]) (t := 27) ?hr ?_; (case hd => rfl); (case hg => rfl); (case hr => first | (go_simp; done) | (go_simp; rfl)); intro gb150 hg w56 hbox hb; have n0_ := Aside0.mk (blk_below (g := gb141) (o := .cells #[.int .i64 0, .int .i64 0, .int .i64 0, .int .i64 0] 23 (0, 0)) (by (with_reducible repeat (first | refine blk_drewN ?_ _ | refine blk_drew ?_ | refine blk_alloc ?_ _)); exact BK141.out) hb); have n1_ := Aside0.mk (below_step (by repeat (first | (with_reducible first | exact HB.out | apply below_alloc | apply pw_below_drewN | apply below_drew1 | refine below_set ?_ GE141.out) | exact HB.out)) hb); have n2_ := Aside0.mk (hbox); have n3_ := Aside0.mk ((by rw [hg]; exact (below_size (by repeat (first | (with_reducible first | exact HB.out | apply below_alloc | apply pw_below_drewN | apply below_drew1 | refine below_set ?_ GE141.out) | exact HB.out))) : w.heap.size ≤ gb150)); have n4_ := Aside0.mk ((by rw [hg]; exact (below_size (by repeat (first | (with_reducible first | exact HB.out | apply below_alloc | apply pw_below_drewN | apply below_drew1 | refine below_set ?_ GE141.out) | exact HB.out))) : w.heap.size ≤ gb150)); have n5_ := Aside0.mk ((by rw [hg]; exact Nat.ne_of_lt (blk_lt (g := gb141) (o := .cells #[.int .i64 0, .int .i64 0, .int .i64 0, .int .i64 0] 23 (0, 0)) (by (with_reducible repeat (first | refine blk_drewN ?_ _ | refine blk_drew ?_ | refine blk_alloc ?_ _)); exact BK141.out)) : gb141 ≠ gb150)); have n6_ := Aside0.mk ((by rw [hg]; exact Nat.ne_of_gt (blk_lt (g := gb141) (o := .cells #[.int .i64 0, .int .i64 0, .int .i64 0, .int .i64 0] 23 (0, 0)) (by (with_reducible repeat (first | refine blk_drewN ?_ _ | refine blk_drew ?_ | refine blk_alloc ?_ _)); exact BK141.out)) : gb150 ≠ gb141)); clear BK141; clear HB; have BK141 := n0_; have HB := n1_; have BK150 := n2_; have GW150 := n3_; have GE150 := n4_; have NB141_150 := n5_; have NB150_141 := n6_; clear n0_ n1_ n2_ n3_ n4_ n5_ n6_; clear hb hbox hg) | ((with_reducible refine gate_dst (N := 9) rfl ?_); refine box_event ?hg (N := 9) ?hd (cs := #[.int .i64 0, .int .i64 0]) (t := 27) ?hr ?_; (case hd => rfl); (case hg => rfl); (case hr => first | (go_simp; done) | (go_simp; rfl)); intro gb151 hg w57 hbox hb; have n0_ := Aside0.mk (blk_below (g := gb141) (o := .cells #[.int .i64 0, .int .i64 0, .int .i64 0, .int .i64 0] 23 (0, 0)) (by (with_reducible repeat (first | refine blk_drewN ?_ _ | refine blk_drew ?_ | refine blk_alloc ?_ _)); exact BK141.out) hb); have n1_ := Aside0.mk (blk_below (g := gb150) (o := .cells #[.int .i64 0, .int .i64 0] 27 (0, 0)) (by (with_reducible repeat (first | refine blk_drewN ?_ _ | refine blk_drew ?_ | refine blk_alloc ?_ _)); exact BK150.out) hb); have n2_ := Aside0.mk (below_step (by repeat (first | (with_reducible first | exact HB.out | apply below_alloc | apply pw_below_drewN | apply below_drew1 | refine below_set ?_ GE141.out | refine below_set ?_ GE150.out) | exact HB.out)) hb); have n3_ := Aside0.mk (hbox); have n4_ := Aside0.mk ((by rw [hg]; exact (below_size (by repeat (first | (with_reducible first | exact HB.out | apply below_alloc | apply pw_below_drewN | apply below_drew1 | refine below_set ?_ GE141.out | refine below_set ?_ GE150.out) | exact HB.out))) : w.heap.size ≤ gb151)); have n5_ := Aside0.mk ((by rw [hg]; exact (below_size (by repeat (first | (with_reducible first | exact HB.out | apply below_alloc | apply pw_below_drewN | apply below_drew1 | refine below_set ?_ GE141.out | refine below_set ?_ GE150.out) | exact HB.out))) : w.heap.size ≤ gb151)); have n6_ := Aside0.mk ((by rw [hg]; exact Nat.ne_of_lt (blk_lt (g := gb141) (o := .cells #[.int .i64 0, .int .i64 0, .int .i64 0, .int .i64 0] 23 (0, 0)) (by (with_reducible repeat (first | refine blk_drewN ?_ _ | refine blk_drew ?_ | refine blk_alloc ?_ _)); exact BK141.out)) : gb141 ≠ gb151)); have n7_ := Aside0.mk ((by rw [hg]; exact Nat.ne_of_gt (blk_lt (g := gb141) (o := .cells #[.int .i64 0, .int .i64 0, .int .i64 0, .int .i64 0] 23 (0, 0)) (by (with_reducible repeat (first | refine blk_drewN ?_ _ | refine blk_drew ?_ | refine blk_alloc ?_ _)); exact BK141.out)) : gb151 ≠ gb141)); have n8_ := Aside0.mk ((by rw [hg]; exact Nat.ne_of_lt (blk_lt (g := gb150) (o := .cells #[.int .i64 0, .int .i64 0] 27 (0, 0)) (by (with_reducible repeat (first | refine blk_drewN ?_ _ | refine blk_drew ?_ | refine blk_alloc ?_ _)); exact BK150.out)) : gb150 ≠ gb151)); have n9_ := Aside0.mk ((by rw [hg]; exact Nat.ne_of_gt (blk_lt (g := gb150) (o := .cells #[.int .i64 0, .int .i64 0] 27 (0, 0)) (by (with_reducible repeat (first | refine blk_drewN ?_ _ | refine blk_drew ?_ | refine blk_alloc ?_ _)); exact BK150.out)) : gb151 ≠ gb150)); clear BK141; clear BK150; clear HB; have BK141 := n0_; have BK150 := n1_; have HB := n2_; have BK151 := n3_; have GW151 := n4_; have GE151 := n5_; have NB141_151 := n6_; have NB151_141 := n7_; have NB150_151 := n8_; have NB151_150 := n9_; clear n0_ n1_ n2_ n3_ n4_ n5_ n6_ n7_ n8_ n9_; clear hb hbox hg; have hnb58 := NB150_141.out; have hnc58 := NB141_150.out; have hnb59 := NB150_151.out; have hnc59 := NB151_150.out; have hcz60_0 : w57.cell? ⟨gb150, 0, none⟩ = some (.int .i64 0) := (blk_cell BK150.out 0).trans rfl; have hcz60_1 : w57.cell? ⟨gb150, 1, none⟩ = some (.int .i64 0) := (blk_cell BK150.out 1).trans rfl; have hfz60_0 := blk_frozen BK150.out 0; have hfz60_1 := blk_frozen BK150.out 1; have hnb61 := NB151_141.out; have hnc61 := NB141_151.out; have hcz62_0 : w57.cell? ⟨gb151, 0, none⟩ = some (.int .i64 0) := (blk_cell BK151.out 0).trans rfl; have hcz62_1 : w57.cell? ⟨gb151, 1, none⟩ = some (.int .i64 0) := (blk_cell BK151.out 1).trans rfl; have hfz62_0 := blk_frozen BK151.out 0; have hfz62_1 := blk_frozen BK151.out 1))
                have n0_ : Aside0 (((((w57.setCell ⟨gb150, 0, none⟩ (.int .i64 t145)).setCell ⟨gb150, 1, none⟩ (.int .i64 t146)).setCell ⟨gb151, 0, none⟩ (.int .i64 t147)).setCell ⟨gb151, 1, none⟩ (.int .i64 t148)).heap[gb141]? = some (.cells #[.int .i64 0, .int .i64 0, .int .i64 0, .int .i64 0] 23 (0, 0))) := ⟨by (with_reducible repeat (first | refine blk_drewN ?_ _ | refine blk_drew ?_ | refine blk_alloc ?_ _)); refine blk_far ?_ NB141_151.out _; (with_reducible repeat (first | refine blk_drewN ?_ _ | refine blk_drew ?_ | refine blk_alloc ?_ _)); refine blk_far ?_ NB141_151.out _; (with_reducible repeat (first | refine blk_drewN ?_ _ | refine blk_drew ?_ | refine blk_alloc ?_ _)); refine blk_far ?_ NB141_150.out _; (with_reducible repeat (first | refine blk_drewN ?_ _ | refine blk_drew ?_ | refine blk_alloc ?_ _)); refine blk_far ?_ NB141_150.out _; (with_reducible repeat (first | refine blk_drewN ?_ _ | refine blk_drew ?_ | refine blk_alloc ?_ _)); exact BK141.out⟩
                have n1_ : Aside0 (((((w57.setCell ⟨gb150, 0, none⟩ (.int .i64 t145)).setCell ⟨gb150, 1, none⟩ (.int .i64 t146)).setCell ⟨gb151, 0, none⟩ (.int .i64 t147)).setCell ⟨gb151, 1, none⟩ (.int .i64 t148)).heap[gb150]? = some (.cells #[.int .i64 t145, .int .i64 t146] 27 (0, 0))) := ⟨by (with_reducible repeat (first | refine blk_drewN ?_ _ | refine blk_drew ?_ | refine blk_alloc ?_ _)); refine blk_far ?_ NB150_151.out _; (with_reducible repeat (first | refine blk_drewN ?_ _ | refine blk_drew ?_ | refine blk_alloc ?_ _)); refine blk_far ?_ NB150_151.out _; (with_reducible repeat (first | refine blk_drewN ?_ _ | refine blk_drew ?_ | refine blk_alloc ?_ _)); refine blk_put (cs := #[.int .i64 t145, .int .i64 0]) ?_ 1 _ rfl; (with_reducible repeat (first | refine blk_drewN ?_ _ | refine blk_drew ?_ | refine blk_alloc ?_ _)); refine blk_put (cs := #[.int .i64 0, .int .i64 0]) ?_ 0 _ rfl; (with_reducible repeat (first | refine blk_drewN ?_ _ | refine blk_drew ?_ | refine blk_alloc ?_ _)); exact BK150.out⟩
                have n2_ : Aside0 (((((w57.setCell ⟨gb150, 0, none⟩ (.int .i64 t145)).setCell ⟨gb150, 1, none⟩ (.int .i64 t146)).setCell ⟨gb151, 0, none⟩ (.int .i64 t147)).setCell ⟨gb151, 1, none⟩ (.int .i64 t148)).heap[gb151]? = some (.cells #[.int .i64 t147, .int .i64 t148] 27 (0, 0))) := ⟨by (with_reducible repeat (first | refine blk_drewN ?_ _ | refine blk_drew ?_ | refine blk_alloc ?_ _)); refine blk_put (cs := #[.int .i64 t147, .int .i64 0]) ?_ 1 _ rfl; (with_reducible repeat (first | refine blk_drewN ?_ _ | refine blk_drew ?_ | refine blk_alloc ?_ _)); refine blk_put (cs := #[.int .i64 0, .int .i64 0]) ?_ 0 _ rfl; (with_reducible repeat (first | refine blk_drewN ?_ _ | refine blk_drew ?_ | refine blk_alloc ?_ _)); refine blk_far ?_ NB151_150.out _; (with_reducible repeat (first | refine blk_drewN ?_ _ | refine blk_drew ?_ | refine blk_alloc ?_ _)); refine blk_far ?_ NB151_150.out _; (with_reducible repeat (first | refine blk_drewN ?_ _ | refine blk_drew ?_ | refine blk_alloc ?_ _)); exact BK151.out⟩
                have n3_ : Aside0 (Below w.heap.size w ((((w57.setCell ⟨gb150, 0, none⟩ (.int .i64 t145)).setCell ⟨gb150, 1, none⟩ (.int .i64 t146)).setCell ⟨gb151, 0, none⟩ (.int .i64 t147)).setCell ⟨gb151, 1, none⟩ (.int .i64 t148))) := ⟨by repeat (first | (with_reducible first | exact HB.out | apply below_alloc | apply pw_below_drewN | apply below_drew1 | refine below_set ?_ GE141.out | refine below_set ?_ GE150.out | refine below_set ?_ GE151.out) | exact HB.out)⟩
                (try clear BK141)
                (try clear BK150)
                (try clear BK151)
                (try clear HB)
                generalize ((((w57.setCell ⟨gb150, 0, none⟩ (.int .i64 t145)).setCell ⟨gb150, 1, none⟩ (.int .i64 t146)).setCell ⟨gb151, 0, none⟩ (.int .i64 t147)).setCell ⟨gb151, 1, none⟩ (.int .i64 t148)) = w63 at n0_ n1_ n2_ n3_ ⊢
                have BK141 := n0_
                have BK150 := n1_
                have BK151 := n2_
                have HB := n3_
                clear n0_ n1_ n2_ n3_
                have n0_ := Aside0.mk (blk_drew BK141.out)
                have n1_ := Aside0.mk (blk_drew BK150.out)
                have n2_ := Aside0.mk (blk_drew BK151.out)
                have n3_ := Aside0.mk (below_drew1 HB.out)
                clear BK141
                clear BK150
                clear BK151
                clear HB
                have BK141 := n0_
                have BK150 := n1_
                have BK151 := n2_
                have HB := n3_
                clear n0_ n1_ n2_ n3_
                refine start_ (n := 15) (S := fun w' => w'.cell? ⟨gb150, 0, none⟩ = some (.int .i64 t145) ∧ w'.cell? ⟨gb150, 1, none⟩ = some (.int .i64 t146)) (ds := []) #[false, false, false, false, false, false, false, false, false, false, false, false, false, false, false] (by kernel_rfl) rfl rfl ⟨(blk_cell BK150.out 0).trans rfl, (blk_cell BK150.out 1).trans rfl⟩ (fun hHeld => ?_); refine with_tabW cell_Of.tab7 cell_Of.bits7 (fun HT_ HW_ => ?_)
                generalize w63.drew = w64 at BK141 BK150 BK151 HB hHeld ⊢
                refine pure_ (i := 0) (N := some 38) (v := ?_) (a' := ?_) #[true, false, false, false, false, false, false, false, false, false, false, false, false, false, false] rfl rfl (any_of HT_.out (by kernel_rfl)) (fun _ _ _ h => h) (Or.inl ⟨by rfl, ?_⟩) ?_ ?_
                rotate_left
                · intro w'
                  go_simp
                  with_reducible rfl
                rotate_left
                · simp only [Act.put, List.setIfInBounds_toArray, List.set_cons_zero, List.set_cons_succ, i64_w, i32_w]
                  rfl
                refine pure_ (i := 2) (N := some 40) (v := ?_) (a' := ?_) #[true, false, true, false, false, false, false, false, false, false, false, false, false, false, false] rfl rfl (any_of HT_.out (by kernel_rfl)) (fun _ _ _ h => h) (Or.inl ⟨by rfl, ?_⟩) ?_ ?_
                rotate_left
                · intro w'
                  go_simp
                  with_reducible rfl
                rotate_left
                · simp only [Act.put, List.setIfInBounds_toArray, List.set_cons_zero, List.set_cons_succ, i64_w, i32_w]
                  rfl
                refine pure_ (i := 4) (N := some 42) (v := ?_) (a' := ?_) #[true, false, true, false, true, false, false, false, false, false, false, false, false, false, false] rfl rfl (any_of HT_.out (by kernel_rfl)) (fun _ _ _ h => h) (Or.inl ⟨by rfl, ?_⟩) ?_ ?_
                rotate_left
                · intro w'
                  go_simp
                  with_reducible rfl
                rotate_left
                · simp only [Act.put, List.setIfInBounds_toArray, List.set_cons_zero, List.set_cons_succ, i64_w, i32_w]
                  rfl
                refine pure_ (i := 6) (N := some 44) (v := ?_) (a' := ?_) #[true, false, true, false, true, false, true, false, false, false, false, false, false, false, false] rfl rfl (any_of HT_.out (by kernel_rfl)) (fun _ _ _ h => h) (Or.inl ⟨by rfl, ?_⟩) ?_ ?_
                rotate_left
                · intro w'
                  go_simp
                  with_reducible rfl
                rotate_left
                · simp only [Act.put, List.setIfInBounds_toArray, List.set_cons_zero, List.set_cons_succ, i64_w, i32_w]
                  rfl
                refine pure_ (i := 8) (N := some 46) (v := ?_) (a' := ?_) #[true, false, true, false, true, false, true, false, true, false, false, false, false, false, false] rfl rfl (any_of HT_.out (by kernel_rfl)) (fun _ _ _ h => h) (Or.inl ⟨by rfl, ?_⟩) ?_ ?_
                rotate_left
                · intro w'
                  go_simp
                  with_reducible rfl
                rotate_left
                · simp only [Act.put, List.setIfInBounds_toArray, List.set_cons_zero, List.set_cons_succ, i64_w, i32_w]
                  rfl
                refine pure_ (i := 10) (N := some 48) (v := ?_) (a' := ?_) #[true, false, true, false, true, false, true, false, true, false, true, false, false, false, false] rfl rfl (any_of HT_.out (by kernel_rfl)) (fun _ _ _ h => h) (Or.inl ⟨by rfl, ?_⟩) ?_ ?_
                rotate_left
                · intro w'
                  go_simp
                  with_reducible rfl
                rotate_left
                · simp only [Act.put, List.setIfInBounds_toArray, List.set_cons_zero, List.set_cons_succ, i64_w, i32_w]
                  rfl
                refine take_ (i := 1) (N := some 39) (v := ?_) (a' := ?_) #[true, true, true, false, true, false, true, false, true, false, true, false, false, false, false] rfl rfl (take_ofW HT_.out HW_.out (by kernel_rfl)) (fun _ _ _ h => h) (Or.inl ⟨by rfl, ?_⟩) hHeld ?_ ?_
                rotate_left
                · rintro w' ⟨s0, s1⟩
                  go_simp
                  with_reducible rfl
                rotate_left
                · simp only [Act.put, List.setIfInBounds_toArray, List.set_cons_zero, List.set_cons_succ, i64_w, i32_w]
                  rfl
                refine take_ (i := 7) (N := some 45) (v := ?_) (a' := ?_) #[true, true, true, false, true, false, true, true, true, false, true, false, false, false, false] rfl rfl (take_ofW HT_.out HW_.out (by kernel_rfl)) (fun _ _ _ h => h) (Or.inl ⟨by rfl, ?_⟩) hHeld ?_ ?_
                rotate_left
                · rintro w' ⟨s0, s1⟩
                  go_simp
                  with_reducible rfl
                rotate_left
                · simp only [Act.put, List.setIfInBounds_toArray, List.set_cons_zero, List.set_cons_succ, i64_w, i32_w]
                  rfl
                refine join_ (σ := Nat) 1 #[true, true, true, true, true, true, true, true, true, true, true, true, true, true, false] (fun s_ => [(41, .int .i64 t152), (47, .int .i64 t153), (12, .pointer (some ⟨s_, 0, none⟩)), (43, .int .i64 (wrap64 (t152 - a2))), (49, .int .i64 (wrap64 (t153 - a2))), (50, .agg #[.int .i64 (wrap64 (t152 - a2)), .int .i64 (wrap64 (t153 - a2)), .int .i64 0, .int .i64 0])]) (fun s_ w' => (w'.cell? ⟨gb150, 0, none⟩ = some (.int .i64 t145) ∧ w'.cell? ⟨gb150, 1, none⟩ = some (.int .i64 t146)) ∧ (w'.heap[gb141]? = some (.cells #[.int .i64 0, .int .i64 0, .int .i64 0, .int .i64 0] 23 (0, 0))) ∧ (w'.heap[gb150]? = some (.cells #[.int .i64 t145, .int .i64 t146] 27 (0, 0))) ∧ (w'.heap[gb151]? = some (.cells #[.int .i64 t147, .int .i64 t148] 27 (0, 0))) ∧ (w'.heap[s_]? = some (.cells #[.int .i64 0, .int .i64 0, .int .i64 0, .int .i64 0] 23 (0, 0))) ∧ (w.heap.size ≤ s_) ∧ (w.heap.size ≤ s_) ∧ (gb141 ≠ s_) ∧ (s_ ≠ gb141) ∧ (gb150 ≠ s_) ∧ (s_ ≠ gb150) ∧ (gb151 ≠ s_) ∧ (s_ ≠ gb151) ∧ (Below w.heap.size w w')) ?_ ?_
                rotate_left
                · intro hCont
                  refine two_ (i := 3) (j := 13) (Ni := some 41) (Nj := some 12) #[true, true, true, true, true, false, true, true, true, false, true, false, false, false, false] #[true, true, true, false, true, false, true, true, true, false, true, false, false, true, false] rfl rfl rfl rfl (two_of HT_.out (by kernel_rfl)) (by decide) (by decide) (fun K hK => ?_) (fun K hK => ?_)
                  · skip
                    refine goes_ Try.func20 (by kernel_rfl) rfl #[.int .i64 t145, .int .i64 (wrap64 (2 * a1))] (by rfl) rfl rfl (by (try simp only [List.map_toArray, List.map_cons, List.map_nil]); first | done | rfl | (simp only [List.length_drop, List.length_take]; rfl)) ?_
                    with_reducible refine (cell_floor.calls t145 (wrap64 (2 * a1)) t152 _ A18.out).mono ?_
                    rintro e w' ⟨rfl, ⟨nd, rfl⟩⟩
                    refine ⟨_, rfl, ?_⟩
                    refine hK.out _ _ ⟨(blk_cell BK150.out 0).trans rfl, (blk_cell BK150.out 1).trans rfl⟩ (fun hHeld => ?_)
                    clear hK K
                    refine norm_ (a' := ?_) ?_ ?_
                    rotate_left
                    · show Act.put _ (some 41) _ = _
                      simp only [Act.put, List.setIfInBounds_toArray, List.set_cons_zero, List.set_cons_succ, i64_w, i32_w]
                      rfl
                    refine pure_ (i := 5) (N := some 43) (v := ?_) (a' := ?_) #[true, true, true, true, true, true, true, true, true, false, true, false, false, false, false] rfl rfl (any_of HT_.out (by kernel_rfl)) (fun _ _ _ h => h) (Or.inl ⟨by rfl, ?_⟩) ?_ ?_
                    rotate_left
                    · intro w'
                      go_simp
                      with_reducible rfl
                    rotate_left
                    · simp only [Act.put, List.setIfInBounds_toArray, List.set_cons_zero, List.set_cons_succ, i64_w, i32_w]
                      rfl
                    refine two_ (i := 9) (j := 13) (Ni := some 47) (Nj := some 12) #[true, true, true, true, true, true, true, true, true, true, true, false, false, false, false] #[true, true, true, true, true, true, true, true, true, false, true, false, false, true, false] rfl rfl rfl rfl (two_of HT_.out (by kernel_rfl)) (by decide) (by decide) (fun K hK => ?_) (fun K hK => ?_)
                    · skip
                      refine goes_ Try.func20 (by kernel_rfl) rfl #[.int .i64 t146, .int .i64 (wrap64 (2 * a1))] (by rfl) rfl rfl (by (try simp only [List.map_toArray, List.map_cons, List.map_nil]); first | done | rfl | (simp only [List.length_drop, List.length_take]; rfl)) ?_
                      with_reducible refine (cell_floor.calls t146 (wrap64 (2 * a1)) t153 _ A19.out).mono ?_
                      rintro e w' ⟨rfl, ⟨nd, rfl⟩⟩
                      refine ⟨_, rfl, ?_⟩
                      refine hK.out _ _ ⟨(blk_cell BK150.out 0).trans rfl, (blk_cell BK150.out 1).trans rfl⟩ (fun hHeld => ?_)
                      clear hK K
                      refine norm_ (a' := ?_) ?_ ?_
                      rotate_left
                      · show Act.put _ (some 47) _ = _
                        simp only [Act.put, List.setIfInBounds_toArray, List.set_cons_zero, List.set_cons_succ, i64_w, i32_w]
                        rfl
                      refine pure_ (i := 11) (N := some 49) (v := ?_) (a' := ?_) #[true, true, true, true, true, true, true, true, true, true, true, true, false, false, false] rfl rfl (any_of HT_.out (by kernel_rfl)) (fun _ _ _ h => h) (Or.inl ⟨by rfl, ?_⟩) ?_ ?_
                      rotate_left
                      · intro w'
                        go_simp
                        with_reducible rfl
                      rotate_left
                      · simp only [Act.put, List.setIfInBounds_toArray, List.set_cons_zero, List.set_cons_succ, i64_w, i32_w]
                        rfl
                      refine pure_ (i := 12) (N := some 50) (v := ?_) (a' := ?_) #[true, true, true, true, true, true, true, true, true, true, true, true, true, false, false] rfl rfl (any_of HT_.out (by kernel_rfl)) (fun _ _ _ h => h) (Or.inl ⟨by rfl, ?_⟩) ?_ ?_
                      rotate_left
                      · intro w'
                        go_simp
                        with_reducible rfl
                      rotate_left
                      · simp only [Act.put, List.setIfInBounds_toArray, List.set_cons_zero, List.set_cons_succ, i64_w, i32_w]
                        rfl
                      refine one_ (i := 13) (N := some 12) #[true, true, true, true, true, true, true, true, true, true, true, true, true, true, false] rfl rfl (one_of HT_.out (by kernel_rfl)) (by decide) (fun K hK => ?_)
                      refine box_step ?hg (N := 12) ?hd (cs := #[.int .i64 0, .int .i64 0, .int .i64 0, .int .i64 0]) (t := 23) ?hr ?_; (case hd => rfl); (case hg => rfl); (case hr => first | (go_simp; done) | (go_simp; rfl))
                      intro gb154 hg w65 hbox hb
                      have n0_ := Aside0.mk (blk_below (g := gb141) (o := .cells #[.int .i64 0, .int .i64 0, .int .i64 0, .int .i64 0] 23 (0, 0)) (by (with_reducible repeat (first | refine blk_drewN ?_ _ | refine blk_drew ?_ | refine blk_alloc ?_ _)); exact BK141.out) hb)
                      have n1_ := Aside0.mk (blk_below (g := gb150) (o := .cells #[.int .i64 t145, .int .i64 t146] 27 (0, 0)) (by (with_reducible repeat (first | refine blk_drewN ?_ _ | refine blk_drew ?_ | refine blk_alloc ?_ _)); exact BK150.out) hb)
                      have n2_ := Aside0.mk (blk_below (g := gb151) (o := .cells #[.int .i64 t147, .int .i64 t148] 27 (0, 0)) (by (with_reducible repeat (first | refine blk_drewN ?_ _ | refine blk_drew ?_ | refine blk_alloc ?_ _)); exact BK151.out) hb)
                      have n3_ := Aside0.mk (below_step (by repeat (first | (with_reducible first | exact HB.out | apply below_alloc | apply pw_below_drewN | apply below_drew1 | refine below_set ?_ GE141.out | refine below_set ?_ GE150.out | refine below_set ?_ GE151.out) | exact HB.out)) hb)
                      have n4_ := Aside0.mk (hbox)
                      have n5_ := Aside0.mk ((by rw [hg]; exact (below_size (by repeat (first | (with_reducible first | exact HB.out | apply below_alloc | apply pw_below_drewN | apply below_drew1 | refine below_set ?_ GE141.out | refine below_set ?_ GE150.out | refine below_set ?_ GE151.out) | exact HB.out))) : w.heap.size ≤ gb154))
                      have n6_ := Aside0.mk ((by rw [hg]; exact (below_size (by repeat (first | (with_reducible first | exact HB.out | apply below_alloc | apply pw_below_drewN | apply below_drew1 | refine below_set ?_ GE141.out | refine below_set ?_ GE150.out | refine below_set ?_ GE151.out) | exact HB.out))) : w.heap.size ≤ gb154))
                      have n7_ := Aside0.mk ((by rw [hg]; exact Nat.ne_of_lt (blk_lt (g := gb141) (o := .cells #[.int .i64 0, .int .i64 0, .int .i64 0, .int .i64 0] 23 (0, 0)) (by (with_reducible repeat (first | refine blk_drewN ?_ _ | refine blk_drew ?_ | refine blk_alloc ?_ _)); exact BK141.out)) : gb141 ≠ gb154))
                      have n8_ := Aside0.mk ((by rw [hg]; exact Nat.ne_of_gt (blk_lt (g := gb141) (o := .cells #[.int .i64 0, .int .i64 0, .int .i64 0, .int .i64 0] 23 (0, 0)) (by (with_reducible repeat (first | refine blk_drewN ?_ _ | refine blk_drew ?_ | refine blk_alloc ?_ _)); exact BK141.out)) : gb154 ≠ gb141))
                      have n9_ := Aside0.mk ((by rw [hg]; exact Nat.ne_of_lt (blk_lt (g := gb150) (o := .cells #[.int .i64 t145, .int .i64 t146] 27 (0, 0)) (by (with_reducible repeat (first | refine blk_drewN ?_ _ | refine blk_drew ?_ | refine blk_alloc ?_ _)); exact BK150.out)) : gb150 ≠ gb154))
                      have n10_ := Aside0.mk ((by rw [hg]; exact Nat.ne_of_gt (blk_lt (g := gb150) (o := .cells #[.int .i64 t145, .int .i64 t146] 27 (0, 0)) (by (with_reducible repeat (first | refine blk_drewN ?_ _ | refine blk_drew ?_ | refine blk_alloc ?_ _)); exact BK150.out)) : gb154 ≠ gb150))
                      have n11_ := Aside0.mk ((by rw [hg]; exact Nat.ne_of_lt (blk_lt (g := gb151) (o := .cells #[.int .i64 t147, .int .i64 t148] 27 (0, 0)) (by (with_reducible repeat (first | refine blk_drewN ?_ _ | refine blk_drew ?_ | refine blk_alloc ?_ _)); exact BK151.out)) : gb151 ≠ gb154))
                      have n12_ := Aside0.mk ((by rw [hg]; exact Nat.ne_of_gt (blk_lt (g := gb151) (o := .cells #[.int .i64 t147, .int .i64 t148] 27 (0, 0)) (by (with_reducible repeat (first | refine blk_drewN ?_ _ | refine blk_drew ?_ | refine blk_alloc ?_ _)); exact BK151.out)) : gb154 ≠ gb151))
                      clear BK141
                      clear BK150
                      clear BK151
                      clear HB
                      have BK141 := n0_
                      have BK150 := n1_
                      have BK151 := n2_
                      have HB := n3_
                      have BK154 := n4_
                      have GW154 := n5_
                      have GE154 := n6_
                      have NB141_154 := n7_
                      have NB154_141 := n8_
                      have NB150_154 := n9_
                      have NB154_150 := n10_
                      have NB151_154 := n11_
                      have NB154_151 := n12_
                      clear n0_ n1_ n2_ n3_ n4_ n5_ n6_ n7_ n8_ n9_ n10_ n11_ n12_
                      clear hb hbox hg
                      refine hK.out _ _ ⟨(blk_cell BK150.out 0).trans rfl, (blk_cell BK150.out 1).trans rfl⟩ (fun hHeld => ?_)
                      clear hK K
                      refine norm_ (a' := ?_) ?_ ?_
                      rotate_left
                      · show Act.put _ (some 12) _ = _
                        simp only [Act.put, List.setIfInBounds_toArray, List.set_cons_zero, List.set_cons_succ, i64_w, i32_w]
                        rfl
                      exact norm_ (by simp only [putAll, Act.put, List.setIfInBounds_toArray, List.set_cons_zero, List.set_cons_succ]) (hCont (gb154) _ ⟨hHeld, (by (with_reducible repeat (first | refine blk_drewN ?_ _ | refine blk_drew ?_ | refine blk_alloc ?_ _)); exact BK141.out), (by (with_reducible repeat (first | refine blk_drewN ?_ _ | refine blk_drew ?_ | refine blk_alloc ?_ _)); exact BK150.out), (by (with_reducible repeat (first | refine blk_drewN ?_ _ | refine blk_drew ?_ | refine blk_alloc ?_ _)); exact BK151.out), (by (with_reducible repeat (first | refine blk_drewN ?_ _ | refine blk_drew ?_ | refine blk_alloc ?_ _)); exact BK154.out), GW154.out, GE154.out, NB141_154.out, NB154_141.out, NB150_154.out, NB154_150.out, NB151_154.out, NB154_151.out, (by repeat (first | (with_reducible first | exact HB.out | apply below_alloc | apply pw_below_drewN | apply below_drew1 | refine below_set ?_ GE141.out | refine below_set ?_ GE150.out | refine below_set ?_ GE151.out | refine below_set ?_ GE154.out) | exact HB.out))⟩)
                    · skip
                      refine box_step ?hg (N := 12) ?hd (cs := #[.int .i64 0, .int .i64 0, .int .i64 0, .int .i64 0]) (t := 23) ?hr ?_; (case hd => rfl); (case hg => rfl); (case hr => first | (go_simp; done) | (go_simp; rfl))
                      intro gb154 hg w65 hbox hb
                      have n0_ := Aside0.mk (blk_below (g := gb141) (o := .cells #[.int .i64 0, .int .i64 0, .int .i64 0, .int .i64 0] 23 (0, 0)) (by (with_reducible repeat (first | refine blk_drewN ?_ _ | refine blk_drew ?_ | refine blk_alloc ?_ _)); exact BK141.out) hb)
                      have n1_ := Aside0.mk (blk_below (g := gb150) (o := .cells #[.int .i64 t145, .int .i64 t146] 27 (0, 0)) (by (with_reducible repeat (first | refine blk_drewN ?_ _ | refine blk_drew ?_ | refine blk_alloc ?_ _)); exact BK150.out) hb)
                      have n2_ := Aside0.mk (blk_below (g := gb151) (o := .cells #[.int .i64 t147, .int .i64 t148] 27 (0, 0)) (by (with_reducible repeat (first | refine blk_drewN ?_ _ | refine blk_drew ?_ | refine blk_alloc ?_ _)); exact BK151.out) hb)
                      have n3_ := Aside0.mk (below_step (by repeat (first | (with_reducible first | exact HB.out | apply below_alloc | apply pw_below_drewN | apply below_drew1 | refine below_set ?_ GE141.out | refine below_set ?_ GE150.out | refine below_set ?_ GE151.out) | exact HB.out)) hb)
                      have n4_ := Aside0.mk (hbox)
                      have n5_ := Aside0.mk ((by rw [hg]; exact (below_size (by repeat (first | (with_reducible first | exact HB.out | apply below_alloc | apply pw_below_drewN | apply below_drew1 | refine below_set ?_ GE141.out | refine below_set ?_ GE150.out | refine below_set ?_ GE151.out) | exact HB.out))) : w.heap.size ≤ gb154))
                      have n6_ := Aside0.mk ((by rw [hg]; exact (below_size (by repeat (first | (with_reducible first | exact HB.out | apply below_alloc | apply pw_below_drewN | apply below_drew1 | refine below_set ?_ GE141.out | refine below_set ?_ GE150.out | refine below_set ?_ GE151.out) | exact HB.out))) : w.heap.size ≤ gb154))
                      have n7_ := Aside0.mk ((by rw [hg]; exact Nat.ne_of_lt (blk_lt (g := gb141) (o := .cells #[.int .i64 0, .int .i64 0, .int .i64 0, .int .i64 0] 23 (0, 0)) (by (with_reducible repeat (first | refine blk_drewN ?_ _ | refine blk_drew ?_ | refine blk_alloc ?_ _)); exact BK141.out)) : gb141 ≠ gb154))
                      have n8_ := Aside0.mk ((by rw [hg]; exact Nat.ne_of_gt (blk_lt (g := gb141) (o := .cells #[.int .i64 0, .int .i64 0, .int .i64 0, .int .i64 0] 23 (0, 0)) (by (with_reducible repeat (first | refine blk_drewN ?_ _ | refine blk_drew ?_ | refine blk_alloc ?_ _)); exact BK141.out)) : gb154 ≠ gb141))
                      have n9_ := Aside0.mk ((by rw [hg]; exact Nat.ne_of_lt (blk_lt (g := gb150) (o := .cells #[.int .i64 t145, .int .i64 t146] 27 (0, 0)) (by (with_reducible repeat (first | refine blk_drewN ?_ _ | refine blk_drew ?_ | refine blk_alloc ?_ _)); exact BK150.out)) : gb150 ≠ gb154))
                      have n10_ := Aside0.mk ((by rw [hg]; exact Nat.ne_of_gt (blk_lt (g := gb150) (o := .cells #[.int .i64 t145, .int .i64 t146] 27 (0, 0)) (by (with_reducible repeat (first | refine blk_drewN ?_ _ | refine blk_drew ?_ | refine blk_alloc ?_ _)); exact BK150.out)) : gb154 ≠ gb150))
                      have n11_ := Aside0.mk ((by rw [hg]; exact Nat.ne_of_lt (blk_lt (g := gb151) (o := .cells #[.int .i64 t147, .int .i64 t148] 27 (0, 0)) (by (with_reducible repeat (first | refine blk_drewN ?_ _ | refine blk_drew ?_ | refine blk_alloc ?_ _)); exact BK151.out)) : gb151 ≠ gb154))
                      have n12_ := Aside0.mk ((by rw [hg]; exact Nat.ne_of_gt (blk_lt (g := gb151) (o := .cells #[.int .i64 t147, .int .i64 t148] 27 (0, 0)) (by (with_reducible repeat (first | refine blk_drewN ?_ _ | refine blk_drew ?_ | refine blk_alloc ?_ _)); exact BK151.out)) : gb154 ≠ gb151))
                      clear BK141
                      clear BK150
                      clear BK151
                      clear HB
                      have BK141 := n0_
                      have BK150 := n1_
                      have BK151 := n2_
                      have HB := n3_
                      have BK154 := n4_
                      have GW154 := n5_
                      have GE154 := n6_
                      have NB141_154 := n7_
                      have NB154_141 := n8_
                      have NB150_154 := n9_
                      have NB154_150 := n10_
                      have NB151_154 := n11_
                      have NB154_151 := n12_
                      clear n0_ n1_ n2_ n3_ n4_ n5_ n6_ n7_ n8_ n9_ n10_ n11_ n12_
                      clear hb hbox hg
                      refine hK.out _ _ ⟨(blk_cell BK150.out 0).trans rfl, (blk_cell BK150.out 1).trans rfl⟩ (fun hHeld => ?_)
                      clear hK K
                      refine norm_ (a' := ?_) ?_ ?_
                      rotate_left
                      · show Act.put _ (some 12) _ = _
                        simp only [Act.put, List.setIfInBounds_toArray, List.set_cons_zero, List.set_cons_succ, i64_w, i32_w]
                        rfl
                      refine one_ (i := 9) (N := some 47) #[true, true, true, true, true, true, true, true, true, true, true, false, false, true, false] rfl rfl (one_of HT_.out (by kernel_rfl)) (by decide) (fun K hK => ?_)
                      refine goes_ Try.func20 (by kernel_rfl) rfl #[.int .i64 t146, .int .i64 (wrap64 (2 * a1))] (by rfl) rfl rfl (by (try simp only [List.map_toArray, List.map_cons, List.map_nil]); first | done | rfl | (simp only [List.length_drop, List.length_take]; rfl)) ?_
                      with_reducible refine (cell_floor.calls t146 (wrap64 (2 * a1)) t153 _ A19.out).mono ?_
                      rintro e w' ⟨rfl, ⟨nd, rfl⟩⟩
                      refine ⟨_, rfl, ?_⟩
                      refine hK.out _ _ ⟨(blk_cell BK150.out 0).trans rfl, (blk_cell BK150.out 1).trans rfl⟩ (fun hHeld => ?_)
                      clear hK K
                      refine norm_ (a' := ?_) ?_ ?_
                      rotate_left
                      · show Act.put _ (some 47) _ = _
                        simp only [Act.put, List.setIfInBounds_toArray, List.set_cons_zero, List.set_cons_succ, i64_w, i32_w]
                        rfl
                      refine pure_ (i := 11) (N := some 49) (v := ?_) (a' := ?_) #[true, true, true, true, true, true, true, true, true, true, true, true, false, true, false] rfl rfl (any_of HT_.out (by kernel_rfl)) (fun _ _ _ h => h) (Or.inl ⟨by rfl, ?_⟩) ?_ ?_
                      rotate_left
                      · intro w'
                        go_simp
                        with_reducible rfl
                      rotate_left
                      · simp only [Act.put, List.setIfInBounds_toArray, List.set_cons_zero, List.set_cons_succ, i64_w, i32_w]
                        rfl
                      refine pure_ (i := 12) (N := some 50) (v := ?_) (a' := ?_) #[true, true, true, true, true, true, true, true, true, true, true, true, true, true, false] rfl rfl (any_of HT_.out (by kernel_rfl)) (fun _ _ _ h => h) (Or.inl ⟨by rfl, ?_⟩) ?_ ?_
                      rotate_left
                      · intro w'
                        go_simp
                        with_reducible rfl
                      rotate_left
                      · simp only [Act.put, List.setIfInBounds_toArray, List.set_cons_zero, List.set_cons_succ, i64_w, i32_w]
                        rfl
                      exact norm_ (by simp only [putAll, Act.put, List.setIfInBounds_toArray, List.set_cons_zero, List.set_cons_succ]) (hCont (gb154) _ ⟨hHeld, (by (with_reducible repeat (first | refine blk_drewN ?_ _ | refine blk_drew ?_ | refine blk_alloc ?_ _)); exact BK141.out), (by (with_reducible repeat (first | refine blk_drewN ?_ _ | refine blk_drew ?_ | refine blk_alloc ?_ _)); exact BK150.out), (by (with_reducible repeat (first | refine blk_drewN ?_ _ | refine blk_drew ?_ | refine blk_alloc ?_ _)); exact BK151.out), (by (with_reducible repeat (first | refine blk_drewN ?_ _ | refine blk_drew ?_ | refine blk_alloc ?_ _)); exact BK154.out), GW154.out, GE154.out, NB141_154.out, NB154_141.out, NB150_154.out, NB154_150.out, NB151_154.out, NB154_151.out, (by repeat (first | (with_reducible first | exact HB.out | apply below_alloc | apply pw_below_drewN | apply below_drew1 | refine below_set ?_ GE141.out | refine below_set ?_ GE150.out | refine below_set ?_ GE151.out | refine below_set ?_ GE154.out) | exact HB.out))⟩)
                  · skip
                    refine box_step ?hg (N := 12) ?hd (cs := #[.int .i64 0, .int .i64 0, .int .i64 0, .int .i64 0]) (t := 23) ?hr ?_; (case hd => rfl); (case hg => rfl); (case hr => first | (go_simp; done) | (go_simp; rfl))
                    intro gb154 hg w65 hbox hb
                    have n0_ := Aside0.mk (blk_below (g := gb141) (o := .cells #[.int .i64 0, .int .i64 0, .int .i64 0, .int .i64 0] 23 (0, 0)) (by (with_reducible repeat (first | refine blk_drewN ?_ _ | refine blk_drew ?_ | refine blk_alloc ?_ _)); exact BK141.out) hb)
                    have n1_ := Aside0.mk (blk_below (g := gb150) (o := .cells #[.int .i64 t145, .int .i64 t146] 27 (0, 0)) (by (with_reducible repeat (first | refine blk_drewN ?_ _ | refine blk_drew ?_ | refine blk_alloc ?_ _)); exact BK150.out) hb)
                    have n2_ := Aside0.mk (blk_below (g := gb151) (o := .cells #[.int .i64 t147, .int .i64 t148] 27 (0, 0)) (by (with_reducible repeat (first | refine blk_drewN ?_ _ | refine blk_drew ?_ | refine blk_alloc ?_ _)); exact BK151.out) hb)
                    have n3_ := Aside0.mk (below_step (by repeat (first | (with_reducible first | exact HB.out | apply below_alloc | apply pw_below_drewN | apply below_drew1 | refine below_set ?_ GE141.out | refine below_set ?_ GE150.out | refine below_set ?_ GE151.out) | exact HB.out)) hb)
                    have n4_ := Aside0.mk (hbox)
                    have n5_ := Aside0.mk ((by rw [hg]; exact (below_size (by repeat (first | (with_reducible first | exact HB.out | apply below_alloc | apply pw_below_drewN | apply below_drew1 | refine below_set ?_ GE141.out | refine below_set ?_ GE150.out | refine below_set ?_ GE151.out) | exact HB.out))) : w.heap.size ≤ gb154))
                    have n6_ := Aside0.mk ((by rw [hg]; exact (below_size (by repeat (first | (with_reducible first | exact HB.out | apply below_alloc | apply pw_below_drewN | apply below_drew1 | refine below_set ?_ GE141.out | refine below_set ?_ GE150.out | refine below_set ?_ GE151.out) | exact HB.out))) : w.heap.size ≤ gb154))
                    have n7_ := Aside0.mk ((by rw [hg]; exact Nat.ne_of_lt (blk_lt (g := gb141) (o := .cells #[.int .i64 0, .int .i64 0, .int .i64 0, .int .i64 0] 23 (0, 0)) (by (with_reducible repeat (first | refine blk_drewN ?_ _ | refine blk_drew ?_ | refine blk_alloc ?_ _)); exact BK141.out)) : gb141 ≠ gb154))
                    have n8_ := Aside0.mk ((by rw [hg]; exact Nat.ne_of_gt (blk_lt (g := gb141) (o := .cells #[.int .i64 0, .int .i64 0, .int .i64 0, .int .i64 0] 23 (0, 0)) (by (with_reducible repeat (first | refine blk_drewN ?_ _ | refine blk_drew ?_ | refine blk_alloc ?_ _)); exact BK141.out)) : gb154 ≠ gb141))
                    have n9_ := Aside0.mk ((by rw [hg]; exact Nat.ne_of_lt (blk_lt (g := gb150) (o := .cells #[.int .i64 t145, .int .i64 t146] 27 (0, 0)) (by (with_reducible repeat (first | refine blk_drewN ?_ _ | refine blk_drew ?_ | refine blk_alloc ?_ _)); exact BK150.out)) : gb150 ≠ gb154))
                    have n10_ := Aside0.mk ((by rw [hg]; exact Nat.ne_of_gt (blk_lt (g := gb150) (o := .cells #[.int .i64 t145, .int .i64 t146] 27 (0, 0)) (by (with_reducible repeat (first | refine blk_drewN ?_ _ | refine blk_drew ?_ | refine blk_alloc ?_ _)); exact BK150.out)) : gb154 ≠ gb150))
                    have n11_ := Aside0.mk ((by rw [hg]; exact Nat.ne_of_lt (blk_lt (g := gb151) (o := .cells #[.int .i64 t147, .int .i64 t148] 27 (0, 0)) (by (with_reducible repeat (first | refine blk_drewN ?_ _ | refine blk_drew ?_ | refine blk_alloc ?_ _)); exact BK151.out)) : gb151 ≠ gb154))
                    have n12_ := Aside0.mk ((by rw [hg]; exact Nat.ne_of_gt (blk_lt (g := gb151) (o := .cells #[.int .i64 t147, .int .i64 t148] 27 (0, 0)) (by (with_reducible repeat (first | refine blk_drewN ?_ _ | refine blk_drew ?_ | refine blk_alloc ?_ _)); exact BK151.out)) : gb154 ≠ gb151))
                    clear BK141
                    clear BK150
                    clear BK151
                    clear HB
                    have BK141 := n0_
                    have BK150 := n1_
                    have BK151 := n2_
                    have HB := n3_
                    have BK154 := n4_
                    have GW154 := n5_
                    have GE154 := n6_
                    have NB141_154 := n7_
                    have NB154_141 := n8_
                    have NB150_154 := n9_
                    have NB154_150 := n10_
                    have NB151_154 := n11_
                    have NB154_151 := n12_
                    clear n0_ n1_ n2_ n3_ n4_ n5_ n6_ n7_ n8_ n9_ n10_ n11_ n12_
                    clear hb hbox hg
                    refine hK.out _ _ ⟨(blk_cell BK150.out 0).trans rfl, (blk_cell BK150.out 1).trans rfl⟩ (fun hHeld => ?_)
                    clear hK K
                    refine norm_ (a' := ?_) ?_ ?_
                    rotate_left
                    · show Act.put _ (some 12) _ = _
                      simp only [Act.put, List.setIfInBounds_toArray, List.set_cons_zero, List.set_cons_succ, i64_w, i32_w]
                      rfl
                    refine one_ (i := 3) (N := some 41) #[true, true, true, true, true, false, true, true, true, false, true, false, false, true, false] rfl rfl (one_of HT_.out (by kernel_rfl)) (by decide) (fun K hK => ?_)
                    refine goes_ Try.func20 (by kernel_rfl) rfl #[.int .i64 t145, .int .i64 (wrap64 (2 * a1))] (by rfl) rfl rfl (by (try simp only [List.map_toArray, List.map_cons, List.map_nil]); first | done | rfl | (simp only [List.length_drop, List.length_take]; rfl)) ?_
                    with_reducible refine (cell_floor.calls t145 (wrap64 (2 * a1)) t152 _ A18.out).mono ?_
                    rintro e w' ⟨rfl, ⟨nd, rfl⟩⟩
                    refine ⟨_, rfl, ?_⟩
                    refine hK.out _ _ ⟨(blk_cell BK150.out 0).trans rfl, (blk_cell BK150.out 1).trans rfl⟩ (fun hHeld => ?_)
                    clear hK K
                    refine norm_ (a' := ?_) ?_ ?_
                    rotate_left
                    · show Act.put _ (some 41) _ = _
                      simp only [Act.put, List.setIfInBounds_toArray, List.set_cons_zero, List.set_cons_succ, i64_w, i32_w]
                      rfl
                    refine pure_ (i := 5) (N := some 43) (v := ?_) (a' := ?_) #[true, true, true, true, true, true, true, true, true, false, true, false, false, true, false] rfl rfl (any_of HT_.out (by kernel_rfl)) (fun _ _ _ h => h) (Or.inl ⟨by rfl, ?_⟩) ?_ ?_
                    rotate_left
                    · intro w'
                      go_simp
                      with_reducible rfl
                    rotate_left
                    · simp only [Act.put, List.setIfInBounds_toArray, List.set_cons_zero, List.set_cons_succ, i64_w, i32_w]
                      rfl
                    refine one_ (i := 9) (N := some 47) #[true, true, true, true, true, true, true, true, true, true, true, false, false, true, false] rfl rfl (one_of HT_.out (by kernel_rfl)) (by decide) (fun K hK => ?_)
                    refine goes_ Try.func20 (by kernel_rfl) rfl #[.int .i64 t146, .int .i64 (wrap64 (2 * a1))] (by rfl) rfl rfl (by (try simp only [List.map_toArray, List.map_cons, List.map_nil]); first | done | rfl | (simp only [List.length_drop, List.length_take]; rfl)) ?_
                    with_reducible refine (cell_floor.calls t146 (wrap64 (2 * a1)) t153 _ A19.out).mono ?_
                    rintro e w' ⟨rfl, ⟨nd, rfl⟩⟩
                    refine ⟨_, rfl, ?_⟩
                    refine hK.out _ _ ⟨(blk_cell BK150.out 0).trans rfl, (blk_cell BK150.out 1).trans rfl⟩ (fun hHeld => ?_)
                    clear hK K
                    refine norm_ (a' := ?_) ?_ ?_
                    rotate_left
                    · show Act.put _ (some 47) _ = _
                      simp only [Act.put, List.setIfInBounds_toArray, List.set_cons_zero, List.set_cons_succ, i64_w, i32_w]
                      rfl
                    refine pure_ (i := 11) (N := some 49) (v := ?_) (a' := ?_) #[true, true, true, true, true, true, true, true, true, true, true, true, false, true, false] rfl rfl (any_of HT_.out (by kernel_rfl)) (fun _ _ _ h => h) (Or.inl ⟨by rfl, ?_⟩) ?_ ?_
                    rotate_left
                    · intro w'
                      go_simp
                      with_reducible rfl
                    rotate_left
                    · simp only [Act.put, List.setIfInBounds_toArray, List.set_cons_zero, List.set_cons_succ, i64_w, i32_w]
                      rfl
                    refine pure_ (i := 12) (N := some 50) (v := ?_) (a' := ?_) #[true, true, true, true, true, true, true, true, true, true, true, true, true, true, false] rfl rfl (any_of HT_.out (by kernel_rfl)) (fun _ _ _ h => h) (Or.inl ⟨by rfl, ?_⟩) ?_ ?_
                    rotate_left
                    · intro w'
                      go_simp
                      with_reducible rfl
                    rotate_left
                    · simp only [Act.put, List.setIfInBounds_toArray, List.set_cons_zero, List.set_cons_succ, i64_w, i32_w]
                      rfl
                    exact norm_ (by simp only [putAll, Act.put, List.setIfInBounds_toArray, List.set_cons_zero, List.set_cons_succ]) (hCont (gb154) _ ⟨hHeld, (by (with_reducible repeat (first | refine blk_drewN ?_ _ | refine blk_drew ?_ | refine blk_alloc ?_ _)); exact BK141.out), (by (with_reducible repeat (first | refine blk_drewN ?_ _ | refine blk_drew ?_ | refine blk_alloc ?_ _)); exact BK150.out), (by (with_reducible repeat (first | refine blk_drewN ?_ _ | refine blk_drew ?_ | refine blk_alloc ?_ _)); exact BK151.out), (by (with_reducible repeat (first | refine blk_drewN ?_ _ | refine blk_drew ?_ | refine blk_alloc ?_ _)); exact BK154.out), GW154.out, GE154.out, NB141_154.out, NB154_141.out, NB150_154.out, NB154_150.out, NB151_154.out, NB154_151.out, (by repeat (first | (with_reducible first | exact HB.out | apply below_alloc | apply pw_below_drewN | apply below_drew1 | refine below_set ?_ GE141.out | refine below_set ?_ GE150.out | refine below_set ?_ GE151.out | refine below_set ?_ GE154.out) | exact HB.out))⟩)
                rintro gb154 w66 ⟨hS_, h0_, h1_, h2_, h3_, h4_, h5_, h6_, h7_, h8_, h9_, h10_, h11_, h12_⟩
                have n0_ : Aside0 (w66.heap[gb141]? = some (.cells #[.int .i64 0, .int .i64 0, .int .i64 0, .int .i64 0] 23 (0, 0))) := ⟨h0_⟩
                have n1_ : Aside0 (w66.heap[gb150]? = some (.cells #[.int .i64 t145, .int .i64 t146] 27 (0, 0))) := ⟨h1_⟩
                have n2_ : Aside0 (w66.heap[gb151]? = some (.cells #[.int .i64 t147, .int .i64 t148] 27 (0, 0))) := ⟨h2_⟩
                have n3_ : Aside0 (w66.heap[gb154]? = some (.cells #[.int .i64 0, .int .i64 0, .int .i64 0, .int .i64 0] 23 (0, 0))) := ⟨h3_⟩
                have n4_ : Aside0 (w.heap.size ≤ gb154) := ⟨h4_⟩
                have n5_ : Aside0 (w.heap.size ≤ gb154) := ⟨h5_⟩
                have n6_ : Aside0 (gb141 ≠ gb154) := ⟨h6_⟩
                have n7_ : Aside0 (gb154 ≠ gb141) := ⟨h7_⟩
                have n8_ : Aside0 (gb150 ≠ gb154) := ⟨h8_⟩
                have n9_ : Aside0 (gb154 ≠ gb150) := ⟨h9_⟩
                have n10_ : Aside0 (gb151 ≠ gb154) := ⟨h10_⟩
                have n11_ : Aside0 (gb154 ≠ gb151) := ⟨h11_⟩
                have n12_ : Aside0 (Below w.heap.size w w66) := ⟨h12_⟩
                clear BK141
                clear BK150
                clear BK151
                clear HB
                clear h0_ h1_ h2_ h3_ h4_ h5_ h6_ h7_ h8_ h9_ h10_ h11_ h12_
                have BK141 := n0_
                have BK150 := n1_
                have BK151 := n2_
                have BK154 := n3_
                have GW154 := n4_
                have GE154 := n5_
                have NB141_154 := n6_
                have NB154_141 := n7_
                have NB150_154 := n8_
                have NB154_150 := n9_
                have NB151_154 := n10_
                have NB154_151 := n11_
                have HB := n12_
                clear n0_ n1_ n2_ n3_ n4_ n5_ n6_ n7_ n8_ n9_ n10_ n11_ n12_
                have hHeld : w66.cell? ⟨gb150, 0, none⟩ = some (.int .i64 t145) ∧ w66.cell? ⟨gb150, 1, none⟩ = some (.int .i64 t146) := hS_
                refine norm_ (a' := ?_) ?_ ?_
                rotate_left
                · simp only [putAll, Act.put, List.setIfInBounds_toArray, List.set_cons_zero, List.set_cons_succ]
                  rfl
                refine one_ (i := 14) (N := none) #[true, true, true, true, true, true, true, true, true, true, true, true, true, true, true] rfl rfl (one_of HT_.out (by kernel_rfl)) (by decide) (fun K hK => ?_)
                have hs67 : w66.cell? ⟨gb154, 0, none⟩ = some (.int .i64 0) := (blk_cell BK154.out 0).trans rfl
                have hfs67 := blk_frozen BK154.out 0
                have hns67_0 := NB141_154.out
                have hns67_1 := NB150_154.out
                have hns67_2 := NB151_154.out
                have hms67_0 := NB154_141.out
                have hms67_1 := NB154_150.out
                have hms67_2 := NB154_151.out
                have hs68 : w66.cell? ⟨gb154, 1, none⟩ = some (.int .i64 0) := (blk_cell BK154.out 1).trans rfl
                have hfs68 := blk_frozen BK154.out 1
                have hns68_0 := NB141_154.out
                have hns68_1 := NB150_154.out
                have hns68_2 := NB151_154.out
                have hms68_0 := NB154_141.out
                have hms68_1 := NB154_150.out
                have hms68_2 := NB154_151.out
                have hs69 : w66.cell? ⟨gb154, 2, none⟩ = some (.int .i64 0) := (blk_cell BK154.out 2).trans rfl
                have hfs69 := blk_frozen BK154.out 2
                have hns69_0 := NB141_154.out
                have hns69_1 := NB150_154.out
                have hns69_2 := NB151_154.out
                have hms69_0 := NB154_141.out
                have hms69_1 := NB154_150.out
                have hms69_2 := NB154_151.out
                have hs70 : w66.cell? ⟨gb154, 3, none⟩ = some (.int .i64 0) := (blk_cell BK154.out 3).trans rfl
                have hfs70 := blk_frozen BK154.out 3
                have hns70_0 := NB141_154.out
                have hns70_1 := NB150_154.out
                have hns70_2 := NB151_154.out
                have hms70_0 := NB154_141.out
                have hms70_1 := NB154_150.out
                have hms70_2 := NB154_151.out
                refine skip_ (w1 := ?_) (by rfl) rfl ?_ ?_
                rotate_left
                · go_simp
                  rfl
                refine hK.out _ _ ⟨((cell_far (p := ⟨gb154, _, none⟩) NB150_154.out _).trans (((cell_far (p := ⟨gb154, _, none⟩) NB150_154.out _).trans (((cell_far (p := ⟨gb154, _, none⟩) NB150_154.out _).trans (((cell_far (p := ⟨gb154, _, none⟩) NB150_154.out _).trans (hHeld.1)))))))), ((cell_far (p := ⟨gb154, _, none⟩) NB150_154.out _).trans (((cell_far (p := ⟨gb154, _, none⟩) NB150_154.out _).trans (((cell_far (p := ⟨gb154, _, none⟩) NB150_154.out _).trans (((cell_far (p := ⟨gb154, _, none⟩) NB150_154.out _).trans (hHeld.2))))))))⟩ (fun hHeld => ?_)
                clear hK K
                refine done_ (done_of HT_.out (by kernel_rfl)) ?_
                try go_wp2
                have n0_ : Aside0 (((((w66.setCell ⟨gb154, 0, none⟩ (.int .i64 (wrap64 (t152 - a2)))).setCell ⟨gb154, 1, none⟩ (.int .i64 (wrap64 (t153 - a2)))).setCell ⟨gb154, 2, none⟩ (.int .i64 0)).setCell ⟨gb154, 3, none⟩ (.int .i64 0)).heap[gb141]? = some (.cells #[.int .i64 0, .int .i64 0, .int .i64 0, .int .i64 0] 23 (0, 0))) := ⟨by (with_reducible repeat (first | refine blk_drewN ?_ _ | refine blk_drew ?_ | refine blk_alloc ?_ _)); refine blk_far ?_ NB141_154.out _; (with_reducible repeat (first | refine blk_drewN ?_ _ | refine blk_drew ?_ | refine blk_alloc ?_ _)); refine blk_far ?_ NB141_154.out _; (with_reducible repeat (first | refine blk_drewN ?_ _ | refine blk_drew ?_ | refine blk_alloc ?_ _)); refine blk_far ?_ NB141_154.out _; (with_reducible repeat (first | refine blk_drewN ?_ _ | refine blk_drew ?_ | refine blk_alloc ?_ _)); refine blk_far ?_ NB141_154.out _; (with_reducible repeat (first | refine blk_drewN ?_ _ | refine blk_drew ?_ | refine blk_alloc ?_ _)); exact BK141.out⟩
                have n1_ : Aside0 (((((w66.setCell ⟨gb154, 0, none⟩ (.int .i64 (wrap64 (t152 - a2)))).setCell ⟨gb154, 1, none⟩ (.int .i64 (wrap64 (t153 - a2)))).setCell ⟨gb154, 2, none⟩ (.int .i64 0)).setCell ⟨gb154, 3, none⟩ (.int .i64 0)).heap[gb150]? = some (.cells #[.int .i64 t145, .int .i64 t146] 27 (0, 0))) := ⟨by (with_reducible repeat (first | refine blk_drewN ?_ _ | refine blk_drew ?_ | refine blk_alloc ?_ _)); refine blk_far ?_ NB150_154.out _; (with_reducible repeat (first | refine blk_drewN ?_ _ | refine blk_drew ?_ | refine blk_alloc ?_ _)); refine blk_far ?_ NB150_154.out _; (with_reducible repeat (first | refine blk_drewN ?_ _ | refine blk_drew ?_ | refine blk_alloc ?_ _)); refine blk_far ?_ NB150_154.out _; (with_reducible repeat (first | refine blk_drewN ?_ _ | refine blk_drew ?_ | refine blk_alloc ?_ _)); refine blk_far ?_ NB150_154.out _; (with_reducible repeat (first | refine blk_drewN ?_ _ | refine blk_drew ?_ | refine blk_alloc ?_ _)); exact BK150.out⟩
                have n2_ : Aside0 (((((w66.setCell ⟨gb154, 0, none⟩ (.int .i64 (wrap64 (t152 - a2)))).setCell ⟨gb154, 1, none⟩ (.int .i64 (wrap64 (t153 - a2)))).setCell ⟨gb154, 2, none⟩ (.int .i64 0)).setCell ⟨gb154, 3, none⟩ (.int .i64 0)).heap[gb151]? = some (.cells #[.int .i64 t147, .int .i64 t148] 27 (0, 0))) := ⟨by (with_reducible repeat (first | refine blk_drewN ?_ _ | refine blk_drew ?_ | refine blk_alloc ?_ _)); refine blk_far ?_ NB151_154.out _; (with_reducible repeat (first | refine blk_drewN ?_ _ | refine blk_drew ?_ | refine blk_alloc ?_ _)); refine blk_far ?_ NB151_154.out _; (with_reducible repeat (first | refine blk_drewN ?_ _ | refine blk_drew ?_ | refine blk_alloc ?_ _)); refine blk_far ?_ NB151_154.out _; (with_reducible repeat (first | refine blk_drewN ?_ _ | refine blk_drew ?_ | refine blk_alloc ?_ _)); refine blk_far ?_ NB151_154.out _; (with_reducible repeat (first | refine blk_drewN ?_ _ | refine blk_drew ?_ | refine blk_alloc ?_ _)); exact BK151.out⟩
                have n3_ : Aside0 (((((w66.setCell ⟨gb154, 0, none⟩ (.int .i64 (wrap64 (t152 - a2)))).setCell ⟨gb154, 1, none⟩ (.int .i64 (wrap64 (t153 - a2)))).setCell ⟨gb154, 2, none⟩ (.int .i64 0)).setCell ⟨gb154, 3, none⟩ (.int .i64 0)).heap[gb154]? = some (.cells #[.int .i64 (wrap64 (t152 - a2)), .int .i64 (wrap64 (t153 - a2)), .int .i64 0, .int .i64 0] 23 (0, 0))) := ⟨by (with_reducible repeat (first | refine blk_drewN ?_ _ | refine blk_drew ?_ | refine blk_alloc ?_ _)); refine blk_put (cs := #[.int .i64 (wrap64 (t152 - a2)), .int .i64 (wrap64 (t153 - a2)), .int .i64 0, .int .i64 0]) ?_ 3 _ rfl; (with_reducible repeat (first | refine blk_drewN ?_ _ | refine blk_drew ?_ | refine blk_alloc ?_ _)); refine blk_put (cs := #[.int .i64 (wrap64 (t152 - a2)), .int .i64 (wrap64 (t153 - a2)), .int .i64 0, .int .i64 0]) ?_ 2 _ rfl; (with_reducible repeat (first | refine blk_drewN ?_ _ | refine blk_drew ?_ | refine blk_alloc ?_ _)); refine blk_put (cs := #[.int .i64 (wrap64 (t152 - a2)), .int .i64 0, .int .i64 0, .int .i64 0]) ?_ 1 _ rfl; (with_reducible repeat (first | refine blk_drewN ?_ _ | refine blk_drew ?_ | refine blk_alloc ?_ _)); refine blk_put (cs := #[.int .i64 0, .int .i64 0, .int .i64 0, .int .i64 0]) ?_ 0 _ rfl; (with_reducible repeat (first | refine blk_drewN ?_ _ | refine blk_drew ?_ | refine blk_alloc ?_ _)); exact BK154.out⟩
                have n4_ : Aside0 (Below w.heap.size w ((((w66.setCell ⟨gb154, 0, none⟩ (.int .i64 (wrap64 (t152 - a2)))).setCell ⟨gb154, 1, none⟩ (.int .i64 (wrap64 (t153 - a2)))).setCell ⟨gb154, 2, none⟩ (.int .i64 0)).setCell ⟨gb154, 3, none⟩ (.int .i64 0))) := ⟨by repeat (first | (with_reducible first | exact HB.out | apply below_alloc | apply pw_below_drewN | apply below_drew1 | refine below_set ?_ GE141.out | refine below_set ?_ GE150.out | refine below_set ?_ GE151.out | refine below_set ?_ GE154.out) | exact HB.out)⟩
                (try clear BK141)
                (try clear BK150)
                (try clear BK151)
                (try clear BK154)
                (try clear HB)
                generalize ((((w66.setCell ⟨gb154, 0, none⟩ (.int .i64 (wrap64 (t152 - a2)))).setCell ⟨gb154, 1, none⟩ (.int .i64 (wrap64 (t153 - a2)))).setCell ⟨gb154, 2, none⟩ (.int .i64 0)).setCell ⟨gb154, 3, none⟩ (.int .i64 0)) = w71 at n0_ n1_ n2_ n3_ n4_ ⊢
                have BK141 := n0_
                have BK150 := n1_
                have BK151 := n2_
                have BK154 := n3_
                have HB := n4_
                clear n0_ n1_ n2_ n3_ n4_
                have n0_ := Aside0.mk (blk_drew BK141.out)
                have n1_ := Aside0.mk (blk_drew BK150.out)
                have n2_ := Aside0.mk (blk_drew BK151.out)
                have n3_ := Aside0.mk (blk_drew BK154.out)
                have n4_ := Aside0.mk (below_drew1 HB.out)
                clear BK141
                clear BK150
                clear BK151
                clear BK154
                clear HB
                have BK141 := n0_
                have BK150 := n1_
                have BK151 := n2_
                have BK154 := n3_
                have HB := n4_
                clear n0_ n1_ n2_ n3_ n4_
                refine start_ (n := 24) (S := fun w' => w'.cell? ⟨gb151, 0, none⟩ = some (.int .i64 t147) ∧ w'.cell? ⟨gb151, 1, none⟩ = some (.int .i64 t148) ∧ w'.cell? ⟨gb154, 0, none⟩ = some (.int .i64 (wrap64 (t152 - a2))) ∧ w'.cell? ⟨gb154, 1, none⟩ = some (.int .i64 (wrap64 (t153 - a2))) ∧ w'.cell? ⟨gb154, 2, none⟩ = some (.int .i64 0) ∧ w'.cell? ⟨gb154, 3, none⟩ = some (.int .i64 0)) (ds := [21, 23]) #[false, false, false, false, false, false, false, false, false, false, false, false, false, false, false, false, false, false, false, false, false, false, false, false] (by kernel_rfl) rfl rfl ⟨(blk_cell BK151.out 0).trans rfl, (blk_cell BK151.out 1).trans rfl, (blk_cell BK154.out 0).trans rfl, (blk_cell BK154.out 1).trans rfl, (blk_cell BK154.out 2).trans rfl, (blk_cell BK154.out 3).trans rfl⟩ (fun hHeld => ?_); refine with_tabW cell_Of.tab8 cell_Of.bits8 (fun HT_ HW_ => ?_)
                generalize w71.drew = w72 at BK141 BK150 BK151 BK154 HB hHeld ⊢
                refine pure_ (i := 0) (N := some 51) (v := ?_) (a' := ?_) #[true, false, false, false, false, false, false, false, false, false, false, false, false, false, false, false, false, false, false, false, false, false, false, false] rfl rfl (any_of HT_.out (by kernel_rfl)) (fun _ _ _ h => h) (Or.inl ⟨by rfl, ?_⟩) ?_ ?_
                rotate_left
                · intro w'
                  go_simp
                  with_reducible rfl
                rotate_left
                · simp only [Act.put, List.setIfInBounds_toArray, List.set_cons_zero, List.set_cons_succ, i64_w, i32_w]
                  rfl
                refine pure_ (i := 1) (N := some 52) (v := ?_) (a' := ?_) #[true, true, false, false, false, false, false, false, false, false, false, false, false, false, false, false, false, false, false, false, false, false, false, false] rfl rfl (any_of HT_.out (by kernel_rfl)) (fun _ _ _ h => h) (Or.inl ⟨by rfl, ?_⟩) ?_ ?_
                rotate_left
                · intro w'
                  go_simp
                  with_reducible rfl
                rotate_left
                · simp only [Act.put, List.setIfInBounds_toArray, List.set_cons_zero, List.set_cons_succ, i64_w, i32_w]
                  rfl
                refine pure_ (i := 4) (N := some 55) (v := ?_) (a' := ?_) #[true, true, false, false, true, false, false, false, false, false, false, false, false, false, false, false, false, false, false, false, false, false, false, false] rfl rfl (any_of HT_.out (by kernel_rfl)) (fun _ _ _ h => h) (Or.inl ⟨by rfl, ?_⟩) ?_ ?_
                rotate_left
                · intro w'
                  go_simp
                  with_reducible rfl
                rotate_left
                · simp only [Act.put, List.setIfInBounds_toArray, List.set_cons_zero, List.set_cons_succ, i64_w, i32_w]
                  rfl
                refine pure_ (i := 7) (N := some 58) (v := ?_) (a' := ?_) #[true, true, false, false, true, false, false, true, false, false, false, false, false, false, false, false, false, false, false, false, false, false, false, false] rfl rfl (any_of HT_.out (by kernel_rfl)) (fun _ _ _ h => h) (Or.inl ⟨by rfl, ?_⟩) ?_ ?_
                rotate_left
                · intro w'
                  go_simp
                  with_reducible rfl
                rotate_left
                · simp only [Act.put, List.setIfInBounds_toArray, List.set_cons_zero, List.set_cons_succ, i64_w, i32_w]
                  rfl
                refine pure_ (i := 10) (N := some 61) (v := ?_) (a' := ?_) #[true, true, false, false, true, false, false, true, false, false, true, false, false, false, false, false, false, false, false, false, false, false, false, false] rfl rfl (any_of HT_.out (by kernel_rfl)) (fun _ _ _ h => h) (Or.inl ⟨by rfl, ?_⟩) ?_ ?_
                rotate_left
                · intro w'
                  go_simp
                  with_reducible rfl
                rotate_left
                · simp only [Act.put, List.setIfInBounds_toArray, List.set_cons_zero, List.set_cons_succ, i64_w, i32_w]
                  rfl
                refine pure_ (i := 11) (N := some 62) (v := ?_) (a' := ?_) #[true, true, false, false, true, false, false, true, false, false, true, true, false, false, false, false, false, false, false, false, false, false, false, false] rfl rfl (any_of HT_.out (by kernel_rfl)) (fun _ _ _ h => h) (Or.inl ⟨by rfl, ?_⟩) ?_ ?_
                rotate_left
                · intro w'
                  go_simp
                  with_reducible rfl
                rotate_left
                · simp only [Act.put, List.setIfInBounds_toArray, List.set_cons_zero, List.set_cons_succ, i64_w, i32_w]
                  rfl
                refine pure_ (i := 14) (N := some 65) (v := ?_) (a' := ?_) #[true, true, false, false, true, false, false, true, false, false, true, true, false, false, true, false, false, false, false, false, false, false, false, false] rfl rfl (any_of HT_.out (by kernel_rfl)) (fun _ _ _ h => h) (Or.inl ⟨by rfl, ?_⟩) ?_ ?_
                rotate_left
                · intro w'
                  go_simp
                  with_reducible rfl
                rotate_left
                · simp only [Act.put, List.setIfInBounds_toArray, List.set_cons_zero, List.set_cons_succ, i64_w, i32_w]
                  rfl
                refine pure_ (i := 17) (N := some 68) (v := ?_) (a' := ?_) #[true, true, false, false, true, false, false, true, false, false, true, true, false, false, true, false, false, true, false, false, false, false, false, false] rfl rfl (any_of HT_.out (by kernel_rfl)) (fun _ _ _ h => h) (Or.inl ⟨by rfl, ?_⟩) ?_ ?_
                rotate_left
                · intro w'
                  go_simp
                  with_reducible rfl
                rotate_left
                · simp only [Act.put, List.setIfInBounds_toArray, List.set_cons_zero, List.set_cons_succ, i64_w, i32_w]
                  rfl
                refine take_ (i := 2) (N := some 53) (v := ?_) (a' := ?_) #[true, true, true, false, true, false, false, true, false, false, true, true, false, false, true, false, false, true, false, false, false, false, false, false] rfl rfl (take_ofW HT_.out HW_.out (by kernel_rfl)) (fun _ _ _ h => h) (Or.inl ⟨by rfl, ?_⟩) hHeld ?_ ?_
                rotate_left
                · rintro w' ⟨s0, s1, s2, s3, s4, s5⟩
                  go_simp
                  with_reducible rfl
                rotate_left
                · simp only [Act.put, List.setIfInBounds_toArray, List.set_cons_zero, List.set_cons_succ, i64_w, i32_w]
                  rfl
                refine pure_ (i := 3) (N := some 54) (v := ?_) (a' := ?_) #[true, true, true, true, true, false, false, true, false, false, true, true, false, false, true, false, false, true, false, false, false, false, false, false] rfl rfl (any_of HT_.out (by kernel_rfl)) (fun _ _ _ h => h) (Or.inl ⟨by rfl, ?_⟩) ?_ ?_
                rotate_left
                · intro w'
                  go_simp
                  with_reducible rfl
                rotate_left
                · simp only [Act.put, List.setIfInBounds_toArray, List.set_cons_zero, List.set_cons_succ, i64_w, i32_w]
                  rfl
                refine take_ (i := 8) (N := some 59) (v := ?_) (a' := ?_) #[true, true, true, true, true, false, false, true, true, false, true, true, false, false, true, false, false, true, false, false, false, false, false, false] rfl rfl (take_ofW HT_.out HW_.out (by kernel_rfl)) (fun _ _ _ h => h) (Or.inl ⟨by rfl, ?_⟩) hHeld ?_ ?_
                rotate_left
                · rintro w' ⟨s0, s1, s2, s3, s4, s5⟩
                  go_simp
                  with_reducible rfl
                rotate_left
                · simp only [Act.put, List.setIfInBounds_toArray, List.set_cons_zero, List.set_cons_succ, i64_w, i32_w]
                  rfl
                refine take_ (i := 12) (N := some 63) (v := ?_) (a' := ?_) #[true, true, true, true, true, false, false, true, true, false, true, true, true, false, true, false, false, true, false, false, false, false, false, false] rfl rfl (take_ofW HT_.out HW_.out (by kernel_rfl)) (fun _ _ _ h => h) (Or.inl ⟨by rfl, ?_⟩) hHeld ?_ ?_
                rotate_left
                · rintro w' ⟨s0, s1, s2, s3, s4, s5⟩
                  go_simp
                  with_reducible rfl
                rotate_left
                · simp only [Act.put, List.setIfInBounds_toArray, List.set_cons_zero, List.set_cons_succ, i64_w, i32_w]
                  rfl
                refine pure_ (i := 13) (N := some 64) (v := ?_) (a' := ?_) #[true, true, true, true, true, false, false, true, true, false, true, true, true, true, true, false, false, true, false, false, false, false, false, false] rfl rfl (any_of HT_.out (by kernel_rfl)) (fun _ _ _ h => h) (Or.inl ⟨by rfl, ?_⟩) ?_ ?_
                rotate_left
                · intro w'
                  go_simp
                  with_reducible rfl
                rotate_left
                · simp only [Act.put, List.setIfInBounds_toArray, List.set_cons_zero, List.set_cons_succ, i64_w, i32_w]
                  rfl
                refine take_ (i := 18) (N := some 69) (v := ?_) (a' := ?_) #[true, true, true, true, true, false, false, true, true, false, true, true, true, true, true, false, false, true, true, false, false, false, false, false] rfl rfl (take_ofW HT_.out HW_.out (by kernel_rfl)) (fun _ _ _ h => h) (Or.inl ⟨by rfl, ?_⟩) hHeld ?_ ?_
                rotate_left
                · rintro w' ⟨s0, s1, s2, s3, s4, s5⟩
                  go_simp
                  with_reducible rfl
                rotate_left
                · simp only [Act.put, List.setIfInBounds_toArray, List.set_cons_zero, List.set_cons_succ, i64_w, i32_w]
                  rfl
                refine one_ (i := 5) (N := some 56) #[true, true, true, true, true, true, false, true, true, false, true, true, true, true, true, false, false, true, true, false, false, false, false, false] rfl rfl (one_of HT_.out (by kernel_rfl)) (by decide) (fun K hK => ?_)
                refine goes_ Try.func20 (by kernel_rfl) rfl #[.int .i64 (wrap64 (-t147)), .int .i64 (wrap64 (2 * a1))] (by rfl) rfl rfl (by (try simp only [List.map_toArray, List.map_cons, List.map_nil]); first | done | rfl | (simp only [List.length_drop, List.length_take]; rfl)) ?_
                with_reducible refine (cell_floor.calls (wrap64 (-t147)) (wrap64 (2 * a1)) t155 _ A20.out).mono ?_
                rintro e w' ⟨rfl, ⟨nd, rfl⟩⟩
                refine ⟨_, rfl, ?_⟩
                refine hK.out _ _ ⟨(blk_cell BK151.out 0).trans rfl, (blk_cell BK151.out 1).trans rfl, (blk_cell BK154.out 0).trans rfl, (blk_cell BK154.out 1).trans rfl, (blk_cell BK154.out 2).trans rfl, (blk_cell BK154.out 3).trans rfl⟩ (fun hHeld => ?_)
                clear hK K
                refine norm_ (a' := ?_) ?_ ?_
                rotate_left
                · show Act.put _ (some 56) _ = _
                  simp only [Act.put, List.setIfInBounds_toArray, List.set_cons_zero, List.set_cons_succ, i64_w, i32_w]
                  rfl
                refine pure_ (i := 6) (N := some 57) (v := ?_) (a' := ?_) #[true, true, true, true, true, true, true, true, true, false, true, true, true, true, true, false, false, true, true, false, false, false, false, false] rfl rfl (any_of HT_.out (by kernel_rfl)) (fun _ _ _ h => h) (Or.inl ⟨by rfl, ?_⟩) ?_ ?_
                rotate_left
                · intro w'
                  go_simp
                  with_reducible rfl
                rotate_left
                · simp only [Act.put, List.setIfInBounds_toArray, List.set_cons_zero, List.set_cons_succ, i64_w, i32_w]
                  rfl
                refine pure_ (i := 9) (N := some 60) (v := ?_) (a' := ?_) #[true, true, true, true, true, true, true, true, true, true, true, true, true, true, true, false, false, true, true, false, false, false, false, false] rfl rfl (any_of HT_.out (by kernel_rfl)) (fun _ _ _ h => h) (Or.inl ⟨by rfl, ?_⟩) ?_ ?_
                rotate_left
                · intro w'
                  go_simp
                  with_reducible rfl
                rotate_left
                · simp only [Act.put, List.setIfInBounds_toArray, List.set_cons_zero, List.set_cons_succ, i64_w, i32_w]
                  rfl
                refine pure_ (i := 20) (N := some 71) (v := ?_) (a' := ?_) #[true, true, true, true, true, true, true, true, true, true, true, true, true, true, true, false, false, true, true, false, true, false, false, false] rfl rfl (any_of HT_.out (by kernel_rfl)) (fun _ _ _ h => h) (Or.inl ⟨by rfl, ?_⟩) ?_ ?_
                rotate_left
                · intro w'
                  go_simp
                  with_reducible rfl
                rotate_left
                · simp only [Act.put, List.setIfInBounds_toArray, List.set_cons_zero, List.set_cons_succ, i64_w, i32_w]
                  rfl
                refine one_ (i := 15) (N := some 66) #[true, true, true, true, true, true, true, true, true, true, true, true, true, true, true, true, false, true, true, false, true, false, false, false] rfl rfl (one_of HT_.out (by kernel_rfl)) (by decide) (fun K hK => ?_)
                refine goes_ Try.func20 (by kernel_rfl) rfl #[.int .i64 (wrap64 (-t148)), .int .i64 (wrap64 (2 * a1))] (by rfl) rfl rfl (by (try simp only [List.map_toArray, List.map_cons, List.map_nil]); first | done | rfl | (simp only [List.length_drop, List.length_take]; rfl)) ?_
                with_reducible refine (cell_floor.calls (wrap64 (-t148)) (wrap64 (2 * a1)) t156 _ A21.out).mono ?_
                rintro e w' ⟨rfl, ⟨nd, rfl⟩⟩
                refine ⟨_, rfl, ?_⟩
                refine hK.out _ _ ⟨(blk_cell BK151.out 0).trans rfl, (blk_cell BK151.out 1).trans rfl, (blk_cell BK154.out 0).trans rfl, (blk_cell BK154.out 1).trans rfl, (blk_cell BK154.out 2).trans rfl, (blk_cell BK154.out 3).trans rfl⟩ (fun hHeld => ?_)
                clear hK K
                refine norm_ (a' := ?_) ?_ ?_
                rotate_left
                · show Act.put _ (some 66) _ = _
                  simp only [Act.put, List.setIfInBounds_toArray, List.set_cons_zero, List.set_cons_succ, i64_w, i32_w]
                  rfl
                refine pure_ (i := 16) (N := some 67) (v := ?_) (a' := ?_) #[true, true, true, true, true, true, true, true, true, true, true, true, true, true, true, true, true, true, true, false, true, false, false, false] rfl rfl (any_of HT_.out (by kernel_rfl)) (fun _ _ _ h => h) (Or.inl ⟨by rfl, ?_⟩) ?_ ?_
                rotate_left
                · intro w'
                  go_simp
                  with_reducible rfl
                rotate_left
                · simp only [Act.put, List.setIfInBounds_toArray, List.set_cons_zero, List.set_cons_succ, i64_w, i32_w]
                  rfl
                refine pure_ (i := 19) (N := some 70) (v := ?_) (a' := ?_) #[true, true, true, true, true, true, true, true, true, true, true, true, true, true, true, true, true, true, true, true, true, false, false, false] rfl rfl (any_of HT_.out (by kernel_rfl)) (fun _ _ _ h => h) (Or.inl ⟨by rfl, ?_⟩) ?_ ?_
                rotate_left
                · intro w'
                  go_simp
                  with_reducible rfl
                rotate_left
                · simp only [Act.put, List.setIfInBounds_toArray, List.set_cons_zero, List.set_cons_succ, i64_w, i32_w]
                  rfl
                refine last_ (i := 21) (N := none) #[true, true, true, true, true, true, true, true, true, true, true, true, true, true, true, true, true, true, true, true, true, true, false, false] rfl rfl (one_of HT_.out (by kernel_rfl)) (by decide) (fun K hK => ?_)
                have hs73 : w72.cell? ⟨gb154, 2, none⟩ = some (.int .i64 0) := (blk_cell BK154.out 2).trans rfl
                have hfs73 := blk_frozen BK154.out 2
                have hns73_0 := NB141_154.out
                have hns73_1 := NB150_154.out
                have hns73_2 := NB151_154.out
                have hms73_0 := NB154_141.out
                have hms73_1 := NB154_150.out
                have hms73_2 := NB154_151.out
                refine skip_ (w1 := ?_) (by rfl) rfl ?_ ?_
                rotate_left
                · go_simp
                  rfl
                refine hK.out _ _ ?_
                clear hK K
                refine pure_ (i := 22) (N := some 72) (v := ?_) (a' := ?_) #[true, true, true, true, true, true, true, true, true, true, true, true, true, true, true, true, true, true, true, true, true, true, true, false] rfl rfl (any_of HT_.out (by kernel_rfl)) (fun _ _ _ h => h) (Or.inl ⟨by rfl, ?_⟩) ?_ ?_
                rotate_left
                · intro w'
                  go_simp
                  with_reducible rfl
                rotate_left
                · simp only [Act.put, List.setIfInBounds_toArray, List.set_cons_zero, List.set_cons_succ, i64_w, i32_w]
                  rfl
                refine last_ (i := 23) (N := none) #[true, true, true, true, true, true, true, true, true, true, true, true, true, true, true, true, true, true, true, true, true, true, true, true] rfl rfl (one_of HT_.out (by kernel_rfl)) (by decide) (fun K hK => ?_)
                have hs74 : w72.cell? ⟨gb154, 3, none⟩ = some (.int .i64 0) := (blk_cell BK154.out 3).trans rfl
                have hfs74 := blk_frozen BK154.out 3
                have hns74_0 := NB141_154.out
                have hns74_1 := NB150_154.out
                have hns74_2 := NB151_154.out
                have hms74_0 := NB154_141.out
                have hms74_1 := NB154_150.out
                have hms74_2 := NB154_151.out
                refine skip_ (w1 := ?_) (by rfl) rfl ?_ ?_
                rotate_left
                · go_simp
                  rfl
                refine hK.out _ _ ?_
                clear hK K
                refine done_ (done_of HT_.out (by kernel_rfl)) ?_
                have hnb75 := NB154_141.out
                have hnc75 := NB141_154.out
                have hnb76 := NB154_150.out
                have hnc76 := NB150_154.out
                have hnb77 := NB154_151.out
                have hnc77 := NB151_154.out
                have hcz78_0 : w72.cell? ⟨gb154, 0, none⟩ = some (.int .i64 (wrap64 (t152 - a2))) := (blk_cell BK154.out 0).trans rfl
                have hcz78_1 : w72.cell? ⟨gb154, 1, none⟩ = some (.int .i64 (wrap64 (t153 - a2))) := (blk_cell BK154.out 1).trans rfl
                have hcz78_2 : w72.cell? ⟨gb154, 2, none⟩ = some (.int .i64 0) := (blk_cell BK154.out 2).trans rfl
                have hcz78_3 : w72.cell? ⟨gb154, 3, none⟩ = some (.int .i64 0) := (blk_cell BK154.out 3).trans rfl
                have hfz78_0 := blk_frozen BK154.out 0
                have hfz78_1 := blk_frozen BK154.out 1
                have hfz78_2 := blk_frozen BK154.out 2
                have hfz78_3 := blk_frozen BK154.out 3
                try go_wp2_with (first | (go_at_call 13; (with_reducible refine (cell_middle.calls (wrap64 (t152 - a2)) (wrap64 (t153 - a2)) (wrap64 ((wrap64 (a2 - t155)) - (wrap64 (t152 - a2)))) (wrap64 ((wrap64 (a2 - t156)) - (wrap64 (t153 - a2)))) a1 0 0 t157 t158 _ A49.out).mono ?_); rintro e w79 ⟨rfl, hb⟩; have n0_ := Aside0.mk (blk_below (g := gb141) (o := .cells #[.int .i64 0, .int .i64 0, .int .i64 0, .int .i64 0] 23 (0, 0)) (by (with_reducible repeat (first | refine blk_drewN ?_ _ | refine blk_drew ?_ | refine blk_alloc ?_ _)); refine blk_far ?_ NB141_154.out _; (with_reducible repeat (first | refine blk_drewN ?_ _ | refine blk_drew ?_ | refine blk_alloc ?_ _)); refine blk_far ?_ NB141_154.out _; (with_reducible repeat (first | refine blk_drewN ?_ _ | refine blk_drew ?_ | refine blk_alloc ?_ _)); exact BK141.out) hb); have n1_ := Aside0.mk (blk_below (g := gb150) (o := .cells #[.int .i64 t145, .int .i64 t146] 27 (0, 0)) (by (with_reducible repeat (first | refine blk_drewN ?_ _ | refine blk_drew ?_ | refine blk_alloc ?_ _)); refine blk_far ?_ NB150_154.out _; (with_reducible repeat (first | refine blk_drewN ?_ _ | refine blk_drew ?_ | refine blk_alloc ?_ _)); refine blk_far ?_ NB150_154.out _; (with_reducible repeat (first | refine blk_drewN ?_ _ | refine blk_drew ?_ | refine blk_alloc ?_ _)); exact BK150.out) hb); have n2_ := Aside0.mk (blk_below (g := gb151) (o := .cells #[.int .i64 t147, .int .i64 t148] 27 (0, 0)) (by (with_reducible repeat (first | refine blk_drewN ?_ _ | refine blk_drew ?_ | refine blk_alloc ?_ _)); refine blk_far ?_ NB151_154.out _; (with_reducible repeat (first | refine blk_drewN ?_ _ | refine blk_drew ?_ | refine blk_alloc ?_ _)); refine blk_far ?_ NB151_154.out _; (with_reducible repeat (first | refine blk_drewN ?_ _ | refine blk_drew ?_ | refine blk_alloc ?_ _)); exact BK151.out) hb); have n3_ := Aside0.mk (blk_below (g := gb154) (o := .cells #[.int .i64 (wrap64 (t152 - a2)), .int .i64 (wrap64 (t153 - a2)), .int .i64 (wrap64 ((wrap64 (a2 - t155)) - (wrap64 (t152 - a2)))), .int .i64 (wrap64 ((wrap64 (a2 - t156)) - (wrap64 (t153 - a2))))] 23 (0, 0)) (by (with_reducible repeat (first | refine blk_drewN ?_ _ | refine blk_drew ?_ | refine blk_alloc ?_ _)); refine blk_put (cs := #[.int .i64 (wrap64 (t152 - a2)), .int .i64 (wrap64 (t153 - a2)), .int .i64 (wrap64 ((wrap64 (a2 - t155)) - (wrap64 (t152 - a2)))), .int .i64 0]) ?_ 3 _ rfl; (with_reducible repeat (first | refine blk_drewN ?_ _ | refine blk_drew ?_ | refine blk_alloc ?_ _)); refine blk_put (cs := #[.int .i64 (wrap64 (t152 - a2)), .int .i64 (wrap64 (t153 - a2)), .int .i64 0, .int .i64 0]) ?_ 2 _ rfl; (with_reducible repeat (first | refine blk_drewN ?_ _ | refine blk_drew ?_ | refine blk_alloc ?_ _)); exact BK154.out) hb); have n4_ := Aside0.mk (below_step (by repeat (first | (with_reducible first | exact HB.out | apply below_alloc | apply pw_below_drewN | apply below_drew1 | refine below_set ?_ GE141.out | refine below_set ?_ GE150.out | refine below_set ?_ GE151.out | refine below_set ?_ GE154.out) | exact HB.out)) hb); clear BK141; clear BK150; clear BK151; clear BK154; clear HB; have BK141 := n0_; have BK150 := n1_; have BK151 := n2_; have BK154 := n3_; have HB := n4_; clear n0_ n1_ n2_ n3_ n4_; (try clear hb); (try clear hb2); (try clear hk); (try clear hi)) | (go_at_call 14; (with_reducible refine (plane_May.calls t157 t158 true _ A50.out).mono ?_); rintro e w80 ⟨rfl, hb⟩; have n0_ := Aside0.mk (blk_below (g := gb141) (o := .cells #[.int .i64 0, .int .i64 0, .int .i64 0, .int .i64 0] 23 (0, 0)) (by (with_reducible repeat (first | refine blk_drewN ?_ _ | refine blk_drew ?_ | refine blk_alloc ?_ _)); exact BK141.out) hb); have n1_ := Aside0.mk (blk_below (g := gb150) (o := .cells #[.int .i64 t145, .int .i64 t146] 27 (0, 0)) (by (with_reducible repeat (first | refine blk_drewN ?_ _ | refine blk_drew ?_ | refine blk_alloc ?_ _)); exact BK150.out) hb); have n2_ := Aside0.mk (blk_below (g := gb151) (o := .cells #[.int .i64 t147, .int .i64 t148] 27 (0, 0)) (by (with_reducible repeat (first | refine blk_drewN ?_ _ | refine blk_drew ?_ | refine blk_alloc ?_ _)); exact BK151.out) hb); have n3_ := Aside0.mk (blk_below (g := gb154) (o := .cells #[.int .i64 (wrap64 (t152 - a2)), .int .i64 (wrap64 (t153 - a2)), .int .i64 (wrap64 ((wrap64 (a2 - t155)) - (wrap64 (t152 - a2)))), .int .i64 (wrap64 ((wrap64 (a2 - t156)) - (wrap64 (t153 - a2))))] 23 (0, 0)) (by (with_reducible repeat (first | refine blk_drewN ?_ _ | refine blk_drew ?_ | refine blk_alloc ?_ _)); exact BK154.out) hb); have n4_ := Aside0.mk (below_step (by repeat (first | (with_reducible first | exact HB.out | apply below_alloc | apply pw_below_drewN | apply below_drew1 | refine below_set ?_ GE141.out | refine below_set ?_ GE150.out | refine below_set ?_ GE151.out | refine below_set ?_ GE154.out) | exact HB.out)) hb); clear BK141; clear BK150; clear BK151; clear BK154; clear HB; have BK141 := n0_; have BK150 := n1_; have BK151 := n2_; have BK154 := n3_; have HB := n4_; clear n0_ n1_ n2_ n3_ n4_; (try clear hb); (try clear hb2); (try clear hk); (try clear hi); have hcz81_0 : w80.cell? ⟨gb154, 0, none⟩ = some (.int .i64 (wrap64 (t152 - a2))) := (blk_cell BK154.out 0).trans rfl; have hcz81_1 : w80.cell? ⟨gb154, 1, none⟩ = some (.int .i64 (wrap64 (t153 - a2))) := (blk_cell BK154.out 1).trans rfl; have hcz81_2 : w80.cell? ⟨gb154, 2, none⟩ = some (.int .i64 (wrap64 ((wrap64 (a2 - t155)) - (wrap64 (t152 - a2))))) := (blk_cell BK154.out 2).trans rfl; have hcz81_3 : w80.cell? ⟨gb154, 3, none⟩ = some (.int .i64 (wrap64 ((wrap64 (a2 - t156)) - (wrap64 (t153 - a2))))) := (blk_cell BK154.out 3).trans rfl; have hfz81_0 := blk_frozen BK154.out 0; have hfz81_1 := blk_frozen BK154.out 1; have hfz81_2 := blk_frozen BK154.out 2; have hfz81_3 := blk_frozen BK154.out 3) | (go_at_call 13; (with_reducible refine (cell_middle.calls (wrap64 (t152 - a2)) (wrap64 (t153 - a2)) (wrap64 ((wrap64 (a2 - t155)) - (wrap64 (t152 - a2)))) (wrap64 ((wrap64 (a2 - t156)) - (wrap64 (t153 - a2)))) a1 (wrap64 ((wrap64 ((wrap64 (a2 - t155)) - (wrap64 (t152 - a2)))) - 1)) (wrap64 ((wrap64 ((wrap64 (a2 - t156)) - (wrap64 (t153 - a2)))) - 1)) t160 t161 _ A52.out).mono ?_); rintro e w82 ⟨rfl, hb⟩; have n0_ := Aside0.mk (blk_below (g := gb141) (o := .cells #[.int .i64 0, .int .i64 0, .int .i64 0, .int .i64 0] 23 (0, 0)) (by (with_reducible repeat (first | refine blk_drewN ?_ _ | refine blk_drew ?_ | refine blk_alloc ?_ _)); exact BK141.out) hb); have n1_ := Aside0.mk (blk_below (g := gb150) (o := .cells #[.int .i64 t145, .int .i64 t146] 27 (0, 0)) (by (with_reducible repeat (first | refine blk_drewN ?_ _ | refine blk_drew ?_ | refine blk_alloc ?_ _)); exact BK150.out) hb); have n2_ := Aside0.mk (blk_below (g := gb151) (o := .cells #[.int .i64 t147, .int .i64 t148] 27 (0, 0)) (by (with_reducible repeat (first | refine blk_drewN ?_ _ | refine blk_drew ?_ | refine blk_alloc ?_ _)); exact BK151.out) hb); have n3_ := Aside0.mk (blk_below (g := gb154) (o := .cells #[.int .i64 (wrap64 (t152 - a2)), .int .i64 (wrap64 (t153 - a2)), .int .i64 (wrap64 ((wrap64 (a2 - t155)) - (wrap64 (t152 - a2)))), .int .i64 (wrap64 ((wrap64 (a2 - t156)) - (wrap64 (t153 - a2))))] 23 (0, 0)) (by (with_reducible repeat (first | refine blk_drewN ?_ _ | refine blk_drew ?_ | refine blk_alloc ?_ _)); exact BK154.out) hb); have n4_ := Aside0.mk (below_step (by repeat (first | (with_reducible first | exact HB.out | apply below_alloc | apply pw_below_drewN | apply below_drew1 | refine below_set ?_ GE141.out | refine below_set ?_ GE150.out | refine below_set ?_ GE151.out | refine below_set ?_ GE154.out) | exact HB.out)) hb); clear BK141; clear BK150; clear BK151; clear BK154; clear HB; have BK141 := n0_; have BK150 := n1_; have BK151 := n2_; have BK154 := n3_; have HB := n4_; clear n0_ n1_ n2_ n3_ n4_; (try clear hb); (try clear hb2); (try clear hk); (try clear hi)) | (go_at_call 14; (with_reducible refine (plane_May.calls t160 t161 true _ A53.out).mono ?_); rintro e w83 ⟨rfl, hb⟩; have n0_ := Aside0.mk (blk_below (g := gb141) (o := .cells #[.int .i64 0, .int .i64 0, .int .i64 0, .int .i64 0] 23 (0, 0)) (by (with_reducible repeat (first | refine blk_drewN ?_ _ | refine blk_drew ?_ | refine blk_alloc ?_ _)); exact BK141.out) hb); have n1_ := Aside0.mk (blk_below (g := gb150) (o := .cells #[.int .i64 t145, .int .i64 t146] 27 (0, 0)) (by (with_reducible repeat (first | refine blk_drewN ?_ _ | refine blk_drew ?_ | refine blk_alloc ?_ _)); exact BK150.out) hb); have n2_ := Aside0.mk (blk_below (g := gb151) (o := .cells #[.int .i64 t147, .int .i64 t148] 27 (0, 0)) (by (with_reducible repeat (first | refine blk_drewN ?_ _ | refine blk_drew ?_ | refine blk_alloc ?_ _)); exact BK151.out) hb); have n3_ := Aside0.mk (blk_below (g := gb154) (o := .cells #[.int .i64 (wrap64 (t152 - a2)), .int .i64 (wrap64 (t153 - a2)), .int .i64 (wrap64 ((wrap64 (a2 - t155)) - (wrap64 (t152 - a2)))), .int .i64 (wrap64 ((wrap64 (a2 - t156)) - (wrap64 (t153 - a2))))] 23 (0, 0)) (by (with_reducible repeat (first | refine blk_drewN ?_ _ | refine blk_drew ?_ | refine blk_alloc ?_ _)); exact BK154.out) hb); have n4_ := Aside0.mk (below_step (by repeat (first | (with_reducible first | exact HB.out | apply below_alloc | apply pw_below_drewN | apply below_drew1 | refine below_set ?_ GE141.out | refine below_set ?_ GE150.out | refine below_set ?_ GE151.out | refine below_set ?_ GE154.out) | exact HB.out)) hb); clear BK141; clear BK150; clear BK151; clear BK154; clear HB; have BK141 := n0_; have BK150 := n1_; have BK151 := n2_; have BK154 := n3_; have HB := n4_; clear n0_ n1_ n2_ n3_ n4_; (try clear hb); (try clear hb2); (try clear hk); (try clear hi); have hcz84_0 : w83.cell? ⟨gb154, 0, none⟩ = some (.int .i64 (wrap64 (t152 - a2))) := (blk_cell BK154.out 0).trans rfl; have hcz84_1 : w83.cell? ⟨gb154, 1, none⟩ = some (.int .i64 (wrap64 (t153 - a2))) := (blk_cell BK154.out 1).trans rfl; have hcz84_2 : w83.cell? ⟨gb154, 2, none⟩ = some (.int .i64 (wrap64 ((wrap64 (a2 - t155)) - (wrap64 (t152 - a2))))) := (blk_cell BK154.out 2).trans rfl; have hcz84_3 : w83.cell? ⟨gb154, 3, none⟩ = some (.int .i64 (wrap64 ((wrap64 (a2 - t156)) - (wrap64 (t153 - a2))))) := (blk_cell BK154.out 3).trans rfl; have hfz84_0 := blk_frozen BK154.out 0; have hfz84_1 := blk_frozen BK154.out 1; have hfz84_2 := blk_frozen BK154.out 2; have hfz84_3 := blk_frozen BK154.out 3; have hcz85_0 : w83.cell? ⟨gb141, 0, none⟩ = some (.int .i64 0) := (blk_cell BK141.out 0).trans rfl; have hcz85_1 : w83.cell? ⟨gb141, 1, none⟩ = some (.int .i64 0) := (blk_cell BK141.out 1).trans rfl; have hcz85_2 : w83.cell? ⟨gb141, 2, none⟩ = some (.int .i64 0) := (blk_cell BK141.out 2).trans rfl; have hcz85_3 : w83.cell? ⟨gb141, 3, none⟩ = some (.int .i64 0) := (blk_cell BK141.out 3).trans rfl; have hfz85_0 := blk_frozen BK141.out 0; have hfz85_1 := blk_frozen BK141.out 1; have hfz85_2 := blk_frozen BK141.out 2; have hfz85_3 := blk_frozen BK141.out 3))
                refine bodyPost_ret (results_ct rfl _ _ gb141 23 #[.int .i64 (wrap64 (t152 - a2)), .int .i64 (wrap64 (t153 - a2)), .int .i64 (wrap64 ((wrap64 (a2 - t155)) - (wrap64 (t152 - a2)))), .int .i64 (wrap64 ((wrap64 (a2 - t156)) - (wrap64 (t153 - a2))))] (0, 0) _ rfl (by (with_reducible repeat (first | refine blk_drewN ?_ _ | refine blk_drew ?_ | refine blk_alloc ?_ _)); refine blk_put (cs := #[.int .i64 (wrap64 (t152 - a2)), .int .i64 (wrap64 (t153 - a2)), .int .i64 (wrap64 ((wrap64 (a2 - t155)) - (wrap64 (t152 - a2)))), .int .i64 0]) ?_ 3 _ rfl; (with_reducible repeat (first | refine blk_drewN ?_ _ | refine blk_drew ?_ | refine blk_alloc ?_ _)); refine blk_put (cs := #[.int .i64 (wrap64 (t152 - a2)), .int .i64 (wrap64 (t153 - a2)), .int .i64 0, .int .i64 0]) ?_ 2 _ rfl; (with_reducible repeat (first | refine blk_drewN ?_ _ | refine blk_drew ?_ | refine blk_alloc ?_ _)); refine blk_put (cs := #[.int .i64 (wrap64 (t152 - a2)), .int .i64 0, .int .i64 0, .int .i64 0]) ?_ 1 _ rfl; (with_reducible repeat (first | refine blk_drewN ?_ _ | refine blk_drew ?_ | refine blk_alloc ?_ _)); refine blk_put (cs := #[.int .i64 0, .int .i64 0, .int .i64 0, .int .i64 0]) ?_ 0 _ rfl; (with_reducible repeat (first | refine blk_drewN ?_ _ | refine blk_drew ?_ | refine blk_alloc ?_ _)); exact BK141.out) Try.underlying23 rfl (by kernel_rfl)) rfl ?_
                exact ⟨by first | rfl | (simp [errW_none, errW_some] <;> rfl) | (simp only [← hji22]; first | rfl | (simp [errW_none, errW_some] <;> rfl)) | (simp [*, errW_none, errW_some] <;> rfl), by repeat (first | (with_reducible first | exact HB.out | apply below_alloc | apply pw_below_drewN | apply below_drew1 | refine below_set ?_ GE141.out | refine below_set ?_ GE150.out | refine below_set ?_ GE151.out | refine below_set ?_ GE154.out) | exact HB.out)⟩
              · replace c54 := Bool.eq_false_iff.mpr c54
                subst c54
                have H1 : (some (0, 0, 0, 0, 11)) = some (r1, r2, r3, r4, r5) := by rw [if_neg (show ¬ (false = true) by decide)] at H; exact H
                clear H
                have H := H1
                clear H1
                simp only [Option.some.injEq, Prod.mk.injEq] at H
                obtain ⟨rfl, rfl, rfl, rfl, rfl⟩ := H
                exact absurd HKP.out (by decide)
            · replace c51 := Bool.eq_false_iff.mpr c51
              subst c51
              have H1 : (some (0, 0, 0, 0, 11)) = some (r1, r2, r3, r4, r5) := by rw [if_neg (show ¬ (false = true) by decide)] at H; exact H
              clear H
              have H := H1
              clear H1
              simp only [Option.some.injEq, Prod.mk.injEq] at H
              obtain ⟨rfl, rfl, rfl, rfl, rfl⟩ := H
              exact absurd HKP.out (by decide)
        · replace c17 := Bool.eq_false_iff.mpr c17
          subst c17
          have H1 : (some (0, 0, 0, 0, 0)) = some (r1, r2, r3, r4, r5) := by rw [if_neg (show ¬ (false = true) by decide)] at H; exact H
          clear H
          have H := H1
          clear H1
          simp only [Option.some.injEq, Prod.mk.injEq] at H
          obtain ⟨rfl, rfl, rfl, rfl, rfl⟩ := H
          exact absurd HKP.out (by decide)

/-- Where the outline has a box and the cell fits: that alone is told. -/
def cell_Of.f (l0 : List (S37)) (a1 : Int) (a2 : Int) : Option (Int × Int × Int × Int × Int) := (cell_Of.g 9 l0 a1 a2).bind fun r => if r.2.2.2.2 = 0 ∧ r.2.2.1 ≠ 0 then some r else none
theorem cell_Of.calls (A0 : Option Addr) (c0 : Nat) (l0 : List (S37)) (a1 : Int) (a2 : Int) (r1 : Int) (r2 : Int) (r3 : Int) (r4 : Int) (r5 : Int) (w : World) (hr0 : Kd.C k37 w A0 l0.length l0) (hc0 : l0.length ≤ c0) (h : cell_Of.f l0 a1 a2 = some (r1, r2, r3, r4, r5)) :
    Calls Try.prog 10 #[.slice A0 l0.length c0, .int .i64 a1, .int .i64 a2] w fun e w' => e = .returned (.tuple #[.agg #[.int .i64 r1, .int .i64 r2, .int .i64 r3, .int .i64 r4], .int .i64 r5]) ∧ Below w.heap.size w w' := by
  unfold cell_Of.f at h
  obtain ⟨r, hg, hr⟩ := Option.bind_eq_some_iff.mp h
  split at hr
  · rename_i hk
    obtain rfl := Option.some.inj hr
    exact cell_Of.gcalls 9 A0 c0 l0 a1 a2 r1 r2 r3 r4 r5 w hr0 hc0 hk hg
  · cases hr

end Go.Proofs.Ythimbpoeoegehaa.Pr
