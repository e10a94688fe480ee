-- printed by a program of this session's (wip/mp.sh), out of the translation; the texts of its folder 'given' are typed by hand
import Derived.Test.YthimbpoeoegehaaPr0
import Derived.Test.YthimbpoeoegehaaPr2
namespace Go.Proofs.Ythimbpoeoegehaa.Pr
open Go.RowKit Go.Proofs.YthimbpoeoegehaaW.PrintWords Go.Proofs.YthimbpoeoegehaaW.PrintLast Go.Proofs.YthimbpoeoegehaaW.PrintMore
attribute [local go_sem] max2_int min2_int max_two min_two max_three min_three max_four min_four   -- for this text's walks alone
set_option linter.unusedVariables false
set_option linter.unusedSimpArgs false

attribute [local go_sem high] eqA27
/-! ### edge_Closed: function 22 -/
mutual
def edge_Closed.l0 : Nat → List (S37) → Option (Bool)
  | 0, _ => none
  | k + 1, x0 => if (x0.length : Int) > 0 then (edge_Closed.l1 k x0 1) else (some true)
def edge_Closed.l1 : Nat → List (S37) → Int → Option (Bool)
  | 0, _, _ => none
  | k + 1, x0, x3 => if x3 < (x0.length : Int) then (if 0 ≤ x3 then (if 0 < (x0.length : Int) then (edge_Closed.j2 k x0 x3 (((rd_T37 x0 x3).f0) == ((rd_T37 x0 0).f0))) else (none)) else (none)) else (edge_Closed.j2 k x0 x3 false)
def edge_Closed.j2 : Nat → List (S37) → Int → Bool → Option (Bool)
  | 0, _, _, _ => none
  | k + 1, x0, x3, x22 => if x22 = true then (if 0 ≤ x3 then (if x3 < (x0.length : Int) then (if 0 ≤ (wrap64 (x3 - 1)) then (if (wrap64 (x3 - 1)) < (x0.length : Int) then (if (!(((rd_T37 x0 x3).f2.f0) == ((rd_T37 x0 (wrap64 (x3 - 1))).f4.f0)) || (!(((rd_T37 x0 x3).f2.f1) == ((rd_T37 x0 (wrap64 (x3 - 1))).f4.f1)))) = true then (some false) else (edge_Closed.l1 k x0 (wrap64 (x3 + 1)))) else (none)) else (none)) else (none)) else (none)) else (if 0 ≤ (wrap64 (x3 - 1)) then (if (wrap64 (x3 - 1)) < (x0.length : Int) then (if 0 < (x0.length : Int) then (if (!(((rd_T37 x0 (wrap64 (x3 - 1))).f4.f0) == ((rd_T37 x0 0).f2.f0)) || (!(((rd_T37 x0 (wrap64 (x3 - 1))).f4.f1) == ((rd_T37 x0 0).f2.f1)))) = true then (some false) else (if 0 ≤ x3 then (if x3 ≤ (x0.length : Int) then (edge_Closed.l0 k (x0.drop (x3 : Int).toNat)) else (none)) else (none))) else (none)) else (none)) else (none))
end
def edge_Closed.f (k : Nat) (l0 : List (S37)) : Option (Bool) := edge_Closed.l0 k l0
theorem edge_Closed.mono_l : ∀ k, (∀ y0, LeO (edge_Closed.l0 k y0) (edge_Closed.l0 (k + 1) y0)) ∧ (∀ y0 y1, LeO (edge_Closed.l1 k y0 y1) (edge_Closed.l1 (k + 1) y0 y1)) ∧ (∀ y0 y1 y2, LeO (edge_Closed.j2 k y0 y1 y2) (edge_Closed.j2 (k + 1) y0 y1 y2))
  | 0 => ⟨fun _ r h => by simp [edge_Closed.l0] at h, fun _ _ r h => by simp [edge_Closed.l1] at h, fun _ _ _ r h => by simp [edge_Closed.j2] at h⟩
  | k + 1 => by
    obtain ⟨ih0, ih1, ih2⟩ := edge_Closed.mono_l k
    refine ⟨?_, ?_, ?_⟩
    · intro y0
      unfold edge_Closed.l0
      repeat' first
      | (with_reducible exact ih0 _)
      | (with_reducible exact ih1 _ _)
      | (with_reducible exact ih2 _ _ _)
      | (with_reducible exact LeO.refl _)
      | (with_reducible exact LeO.none _)
      | (with_reducible refine LeO.ite ?_ ?_)
      | (with_reducible refine LeO.bind ?_ (fun _ => ?_))
      | exact ih0 _
      | exact ih1 _ _
      | exact ih2 _ _ _
      | exact LeO.none _
      | refine LeO.ite ?_ ?_
      | refine LeO.bind ?_ (fun _ => ?_)
    · intro y0 y1
      unfold edge_Closed.l1
      repeat' first
      | (with_reducible exact ih0 _)
      | (with_reducible exact ih1 _ _)
      | (with_reducible exact ih2 _ _ _)
      | (with_reducible exact LeO.refl _)
      | (with_reducible exact LeO.none _)
      | (with_reducible refine LeO.ite ?_ ?_)
      | (with_reducible refine LeO.bind ?_ (fun _ => ?_))
      | exact ih0 _
      | exact ih1 _ _
      | exact ih2 _ _ _
      | exact LeO.none _
      | refine LeO.ite ?_ ?_
      | refine LeO.bind ?_ (fun _ => ?_)
    · intro y0 y1 y2
      unfold edge_Closed.j2
      repeat' first
      | (with_reducible exact ih0 _)
      | (with_reducible exact ih1 _ _)
      | (with_reducible exact ih2 _ _ _)
      | (with_reducible exact LeO.refl _)
      | (with_reducible exact LeO.none _)
      | (with_reducible refine LeO.ite ?_ ?_)
      | (with_reducible refine LeO.bind ?_ (fun _ => ?_))
      | exact ih0 _
      | exact ih1 _ _
      | exact ih2 _ _ _
      | exact LeO.none _
      | refine LeO.ite ?_ ?_
      | refine LeO.bind ?_ (fun _ => ?_)
theorem edge_Closed.mono : ∀ a0 k, LeO (edge_Closed.f k a0) (edge_Closed.f (k + 1) a0) := by
  intro a0 k
  obtain ⟨ih0, ih1, ih2⟩ := edge_Closed.mono_l k
  unfold edge_Closed.f
  repeat' first
      | (with_reducible exact ih0 _)
      | (with_reducible exact ih1 _ _)
      | (with_reducible exact ih2 _ _ _)
      | (with_reducible exact LeO.refl _)
      | (with_reducible exact LeO.none _)
      | (with_reducible refine LeO.ite ?_ ?_)
      | (with_reducible refine LeO.bind ?_ (fun _ => ?_))
      | exact ih0 _
      | exact ih1 _ _
      | exact ih2 _ _ _
      | exact LeO.none _
      | refine LeO.ite ?_ ?_
      | refine LeO.bind ?_ (fun _ => ?_)
set_option maxHeartbeats 8000000 in
set_option maxRecDepth 100000 in
theorem edge_Closed.calls (k : Nat) (P0_ : Nat → Prop) (A0 : Option Addr) (c0 : Nat) (l0 : List (S37)) (r : Bool) (w : World) (hs0 : Kd.V k37 37 w w.heap.size (fun k_ => P0_ k_) (.slice A0 l0.length c0) l0) (h : edge_Closed.f k l0 = some r) :
    Calls Try.prog 22 #[.slice A0 l0.length c0] w fun e w' => e = .returned (.bool r) ∧ Below w.heap.size w w' := by
  have hu27 := Try.underlying27
  have HO0 := Aside0.mk (show Kd.V k37 37 w w.heap.size (fun k_ => (P0_ k_ ∨ w.heap.size ≤ k_)) (.slice A0 l0.length c0) l0 from Kd.V_mono hs0 (fun k_ hk => .inl hk))
  have HB := Aside0.mk (Below.refl w.heap.size w)
  have H : (edge_Closed.l0 k l0) = some r := h
  clear h
  have H' := Aside0.mk H
  clear H
  go_enter Try.func22, Try.ntmps22
  go_wp2
  repeat (go_quiet (fail); try go_wp2)
  go_loopg [0] k (fun kq v0 w' => ∃ (x0_1 : List (S37)), Aside0 (edge_Closed.l0 kq x0_1 = some r) ∧ Aside0 (kq ≤ k) ∧ Aside0 (Kd.V k37 37 w' w.heap.size (fun k_ => (P0_ k_ ∨ w.heap.size ≤ k_)) v0 x0_1) ∧ Aside0 (Below w.heap.size w w'))
  case atStart => exact ⟨(l0), H', ⟨Nat.le_refl _⟩, ⟨by (with_reducible repeat (first | apply Kd.V_alloc | apply Kd.V_drewN | apply Kd.V_drew)); exact HO0.out⟩, ⟨by repeat (first | (with_reducible first | exact HB.out | apply below_alloc | apply pw_below_drewN | apply below_drew1) | exact HB.out)⟩⟩
  case round =>
    clear H'
    obtain ⟨x0_1, HA, HK1, HO_0, HB⟩ := hrel
    cases gk with
    | zero => exact absurd HA.out (by simp [edge_Closed.l0])
    | succ k1 =>
      have H := HA.out
      clear HA
      simp only [edge_Closed.l0] at H
      by_cases c2 : (x0_1.length : Int) > 0
      · rw [if_pos c2] at H
        have c2b0 : decide (0 < (x0_1.length : Int)) = true := decide_eq_true c2
        have c2b1 : decide (0 < x0_1.length) = true := decide_eq_true (by omega)
        clear c2
        have H' := Aside0.mk H
        clear H
        obtain ⟨Ao3, co3, eo3⟩ := Kd.V_slice HO_0.out
        subst eo3
        go_wp2
        repeat (go_quiet (fail); try go_wp2)
        go_loopg [3] k1 (fun kq v3 w' => ∃ (x3_2 : Int), v3 = .int .i64 x3_2 ∧ Aside0 (edge_Closed.l1 kq x0_1 x3_2 = some r) ∧ Aside0 (kq ≤ k1) ∧ Aside0 (Kd.V k37 37 w' w.heap.size (fun k_ => (P0_ k_ ∨ w.heap.size ≤ k_)) (.slice Ao3 x0_1.length co3) x0_1) ∧ Aside0 (Below w.heap.size w w'))
        case atStart => exact ⟨(1), (by first | rfl | (simp; done) | (simp [*]; done)), H', ⟨Nat.le_refl _⟩, ⟨by (with_reducible repeat (first | apply Kd.V_alloc | apply Kd.V_drewN | apply Kd.V_drew)); exact HO_0.out⟩, ⟨by repeat (first | (with_reducible first | exact HB.out | apply below_alloc | apply pw_below_drewN | apply below_drew1) | exact HB.out)⟩⟩
        case round =>
          clear H'
          try clear c2
          try clear c2b0
          try clear c2b1
          try clear p2
          obtain ⟨x3_2, rfl, HA, HK2, HO_0, HB⟩ := hrel
          cases gk with
          | zero => exact absurd HA.out (by simp [edge_Closed.l1])
          | succ k2 =>
            have H := HA.out
            clear HA
            simp only [edge_Closed.l1] at H
            have HC4 := Aside0.mk H
            clear H
            go_upto_region 3 with (fail)
            repeat (go_quiet (fail); go_upto_region 3 with (fail))
            go_cut [22] (fun v22 wc => ∃ (kq : Nat) (x22_3 : Bool), v22 = .bool x22_3 ∧ Aside0 (edge_Closed.j2 kq x0_1 x3_2 x22_3 = some r) ∧ Aside0 (kq ≤ k2) ∧ Aside0 (Kd.V k37 37 wc w.heap.size (fun k_ => (P0_ k_ ∨ w.heap.size ≤ k_)) (.slice Ao3 x0_1.length co3) x0_1) ∧ Aside0 (Below w.heap.size w wc))
            case first =>
              have H := HC4.out
              clear HC4
              by_cases c5 : x3_2 < (x0_1.length : Int)
              · rw [if_pos c5] at H
                have c5b0 : decide (x3_2 < (x0_1.length : Int)) = true := decide_eq_true c5
                clear c5
                (first | rw [c5b0] | (simp only [i64_w, i32_w]; rw [c5b0]) | skip)
                by_cases c6 : 0 ≤ x3_2
                · rw [if_pos c6] at H
                  have c6b0 : decide (0 ≤ x3_2) = true := decide_eq_true c6
                  clear c6
                  by_cases c7 : 0 < (x0_1.length : Int)
                  · rw [if_pos c7] at H
                    have c7b0 : decide (0 < (x0_1.length : Int)) = true := decide_eq_true c7
                    have c7b1 : decide (0 < x0_1.length) = true := decide_eq_true (by omega)
                    clear c7
                    have H' := Aside0.mk H
                    clear H
                    have p120 : 0 ≤ (x3_2 : Int) := of_decide_eq_true (by first | (with_reducible assumption) | assumption)
                    have q120 : x3_2 < (x0_1.length : Int) := of_decide_eq_true (by first | (with_reducible assumption) | assumption)
                    obtain ⟨ad120, e120, hx120_0, hx120_1, hx120_2, hx120_3, hx120_4, hx120_5, hx120_6, hx120_7⟩ := at_T37 (Kd.V_reads' HO_0.out).2.2 x3_2 p120 q120
                    cases e120
                    replace p120 := eq_true p120
                    replace q120 := eq_true q120
                    have p121 : 0 ≤ (0 : Int) := (by omega)
                    have q121 : 0 < (x0_1.length : Int) := of_decide_eq_true (by first | (with_reducible assumption) | assumption)
                    obtain ⟨ad121, e121, hx121_0, hx121_1, hx121_2, hx121_3, hx121_4, hx121_5, hx121_6, hx121_7⟩ := at_T37 (Kd.V_reads' HO_0.out).2.2 0 p121 q121
                    obtain rfl : ad120 = ad121 := (by injection e121)
                    have qi121 : (0 < x0_1.length) = True := eq_true (by omega)
                    (try rw [show ((0 : Int)).toNat = 0 from rfl] at hx121_0)
                    (try rw [show 0 * 8 = 0 from rfl] at hx121_0)
                    (try rw [Addr.add_zero'] at hx121_0)
                    (try rw [show ((0 : Int)).toNat = 0 from rfl] at hx121_1)
                    (try rw [show 0 * 8 = 0 from rfl] at hx121_1)
                    (try rw [Addr.add_zero'] at hx121_1)
                    (try rw [show ((0 : Int)).toNat = 0 from rfl] at hx121_2)
                    (try rw [show 0 * 8 = 0 from rfl] at hx121_2)
                    (try rw [Addr.add_zero'] at hx121_2)
                    (try rw [show ((0 : Int)).toNat = 0 from rfl] at hx121_3)
                    (try rw [show 0 * 8 = 0 from rfl] at hx121_3)
                    (try rw [Addr.add_zero'] at hx121_3)
                    (try rw [show ((0 : Int)).toNat = 0 from rfl] at hx121_4)
                    (try rw [show 0 * 8 = 0 from rfl] at hx121_4)
                    (try rw [Addr.add_zero'] at hx121_4)
                    (try rw [show ((0 : Int)).toNat = 0 from rfl] at hx121_5)
                    (try rw [show 0 * 8 = 0 from rfl] at hx121_5)
                    (try rw [Addr.add_zero'] at hx121_5)
                    (try rw [show ((0 : Int)).toNat = 0 from rfl] at hx121_6)
                    (try rw [show 0 * 8 = 0 from rfl] at hx121_6)
                    (try rw [Addr.add_zero'] at hx121_6)
                    (try rw [show ((0 : Int)).toNat = 0 from rfl] at hx121_7)
                    (try rw [show 0 * 8 = 0 from rfl] at hx121_7)
                    (try rw [Addr.add_zero'] at hx121_7)
                    replace p121 := eq_true p121
                    replace q121 := eq_true q121
                    go_wp2
                    repeat (go_quiet (fail); try go_wp2)
                    go_meet
                    case rel => exact ⟨_, ((((rd_T37 x0_1 x3_2).f0) == ((rd_T37 x0_1 0).f0))), (by first | rfl | (simp; done) | (simp [*]; done)), H', ⟨by have := HK1.out; have := HK2.out; first | omega | exact Nat.le_refl _⟩, ⟨by (with_reducible repeat (first | apply Kd.V_alloc | apply Kd.V_drewN | apply Kd.V_drew)); exact HO_0.out⟩, ⟨by repeat (first | (with_reducible first | exact HB.out | apply below_alloc | apply pw_below_drewN | apply below_drew1) | exact HB.out)⟩⟩
                  · rw [if_neg c7] at H
                    exact absurd H (by simp)
                · rw [if_neg c6] at H
                  exact absurd H (by simp)
              · rw [if_neg c5] at H
                have c5b0 : decide (x3_2 < (x0_1.length : Int)) = false := decide_eq_false c5
                clear c5
                (first | rw [c5b0] | (simp only [i64_w, i32_w]; rw [c5b0]) | skip)
                have H' := Aside0.mk H
                clear H
                go_wp2
                repeat (go_quiet (fail); try go_wp2)
                go_meet
                case rel => exact ⟨_, (false), (by first | rfl | (simp; done) | (simp [*]; done)), H', ⟨by have := HK1.out; have := HK2.out; first | omega | exact Nat.le_refl _⟩, ⟨by (with_reducible repeat (first | apply Kd.V_alloc | apply Kd.V_drewN | apply Kd.V_drew)); exact HO_0.out⟩, ⟨by repeat (first | (with_reducible first | exact HB.out | apply below_alloc | apply pw_below_drewN | apply below_drew1) | exact HB.out)⟩⟩
            case rest =>
              clear HC4
              try clear p1
              try clear q1
              try clear hx1
              try clear qi1
              try clear c2
              try clear c2b0
              try clear c2b1
              try clear p2
              try clear c5
              try clear c5b0
              try clear c6
              try clear c6b0
              try clear c7
              try clear c7b0
              try clear c7b1
              try clear hx120_0
              try clear hx120_1
              try clear hx120_2
              try clear hx120_3
              try clear hx120_4
              try clear hx120_5
              try clear hx120_6
              try clear hx120_7
              try clear hx121_0
              try clear hx121_1
              try clear hx121_2
              try clear hx121_3
              try clear hx121_4
              try clear hx121_5
              try clear hx121_6
              try clear hx121_7
              try clear p120
              try clear p121
              try clear p2
              try clear q120
              try clear q121
              obtain ⟨kq, x22_3, rfl, HA, HJ3, HO_0, HB⟩ := hcut
              cases kq with
              | zero => exact absurd HA.out (by simp [edge_Closed.j2])
              | succ kj3 =>
                have H := HA.out
                clear HA
                simp only [edge_Closed.j2] at H
                by_cases c8 : x22_3 = true
                · subst c8
                  have H1 : (if 0 ≤ x3_2 then (if x3_2 < (x0_1.length : Int) then (if 0 ≤ (wrap64 (x3_2 - 1)) then (if (wrap64 (x3_2 - 1)) < (x0_1.length : Int) then (if (!(((rd_T37 x0_1 x3_2).f2.f0) == ((rd_T37 x0_1 (wrap64 (x3_2 - 1))).f4.f0)) || (!(((rd_T37 x0_1 x3_2).f2.f1) == ((rd_T37 x0_1 (wrap64 (x3_2 - 1))).f4.f1)))) = true then (some false) else (edge_Closed.l1 kj3 x0_1 (wrap64 (x3_2 + 1)))) else (none)) else (none)) else (none)) else (none)) = some r := by rw [if_pos rfl] at H; exact H
                  clear H
                  have H := H1
                  clear H1
                  by_cases c9 : 0 ≤ x3_2
                  · rw [if_pos c9] at H
                    have c9b0 : decide (0 ≤ x3_2) = true := decide_eq_true c9
                    clear c9
                    by_cases c10 : x3_2 < (x0_1.length : Int)
                    · rw [if_pos c10] at H
                      have c10b0 : decide (x3_2 < (x0_1.length : Int)) = true := decide_eq_true c10
                      clear c10
                      obtain ⟨ji11, hji11⟩ : ∃ j_ : Int, (wrap64 (x3_2 - 1)) = j_ := ⟨_, rfl⟩
                      replace H : (if 0 ≤ (ji11) then (if (ji11) < (x0_1.length : Int) then (if (!(((rd_T37 x0_1 x3_2).f2.f0) == ((rd_T37 x0_1 (ji11)).f4.f0)) || (!(((rd_T37 x0_1 x3_2).f2.f1) == ((rd_T37 x0_1 (ji11)).f4.f1)))) = true then (some false) else (edge_Closed.l1 kj3 x0_1 (wrap64 (x3_2 + 1)))) else (none)) else (none)) = some r := by first | (rw [hji11] at H; exact H) | (simp only [hji11] at H ⊢; exact H)
                      have hji11w : (IntKind.i64.wrap (x3_2 - 1)) = ji11 := (i64_w _).trans hji11
                      by_cases c12 : 0 ≤ (ji11)
                      · rw [if_pos c12] at H
                        have c12b0 : decide (0 ≤ (ji11)) = true := decide_eq_true c12
                        clear c12
                        by_cases c13 : (ji11) < (x0_1.length : Int)
                        · rw [if_pos c13] at H
                          have c13b0 : decide ((ji11) < (x0_1.length : Int)) = true := decide_eq_true c13
                          clear c13
                          by_cases c14 : (!(((rd_T37 x0_1 x3_2).f2.f0) == ((rd_T37 x0_1 (ji11)).f4.f0)) || (!(((rd_T37 x0_1 x3_2).f2.f1) == ((rd_T37 x0_1 (ji11)).f4.f1)))) = true
                          · rw [if_pos c14] at H
                            have c14b0 : (!(((rd_T37 x0_1 x3_2).f2.f0) == ((rd_T37 x0_1 (ji11)).f4.f0)) || (!(((rd_T37 x0_1 x3_2).f2.f1) == ((rd_T37 x0_1 (ji11)).f4.f1)))) = true := c14
                            clear c14
                            obtain rfl := Option.some.inj H
                            have p122 : 0 ≤ (x3_2 : Int) := of_decide_eq_true (by first | (with_reducible assumption) | assumption)
                            have q122 : x3_2 < (x0_1.length : Int) := of_decide_eq_true (by first | (with_reducible assumption) | assumption)
                            obtain ⟨ad122, e122, hx122_0, hx122_1, hx122_2, hx122_3, hx122_4, hx122_5, hx122_6, hx122_7⟩ := at_T37 (Kd.V_reads' HO_0.out).2.2 x3_2 p122 q122
                            cases e122
                            replace p122 := eq_true p122
                            replace q122 := eq_true q122
                            have p123 : 0 ≤ ((ji11) : Int) := of_decide_eq_true (by first | (with_reducible assumption) | assumption)
                            have q123 : (ji11) < (x0_1.length : Int) := of_decide_eq_true (by first | (with_reducible assumption) | assumption)
                            obtain ⟨ad123, e123, hx123_0, hx123_1, hx123_2, hx123_3, hx123_4, hx123_5, hx123_6, hx123_7⟩ := at_T37 (Kd.V_reads' HO_0.out).2.2 (ji11) p123 q123
                            obtain rfl : ad122 = ad123 := (by injection e123)
                            replace p123 := eq_true p123
                            replace q123 := eq_true q123
                            go_wp2
                            repeat (go_quiet (fail); try go_wp2)
                            go_ret
                            exact ⟨by first | rfl | (simp [errW_none, errW_some] <;> rfl) | (simp only [← hji11]; first | rfl | (simp [errW_none, errW_some] <;> rfl)) | (simp [*, errW_none, errW_some] <;> rfl), by repeat (first | (with_reducible first | exact HB.out | apply below_alloc | apply pw_below_drewN | apply below_drew1) | exact HB.out)⟩
                          · rw [if_neg c14] at H
                            have c14b0 : (!(((rd_T37 x0_1 x3_2).f2.f0) == ((rd_T37 x0_1 (ji11)).f4.f0)) || (!(((rd_T37 x0_1 x3_2).f2.f1) == ((rd_T37 x0_1 (ji11)).f4.f1)))) = false := by simpa using c14
                            clear c14
                            have H' := Aside0.mk H
                            clear H
                            have p122 : 0 ≤ (x3_2 : Int) := of_decide_eq_true (by first | (with_reducible assumption) | assumption)
                            have q122 : x3_2 < (x0_1.length : Int) := of_decide_eq_true (by first | (with_reducible assumption) | assumption)
                            obtain ⟨ad122, e122, hx122_0, hx122_1, hx122_2, hx122_3, hx122_4, hx122_5, hx122_6, hx122_7⟩ := at_T37 (Kd.V_reads' HO_0.out).2.2 x3_2 p122 q122
                            cases e122
                            replace p122 := eq_true p122
                            replace q122 := eq_true q122
                            have p123 : 0 ≤ ((ji11) : Int) := of_decide_eq_true (by first | (with_reducible assumption) | assumption)
                            have q123 : (ji11) < (x0_1.length : Int) := of_decide_eq_true (by first | (with_reducible assumption) | assumption)
                            obtain ⟨ad123, e123, hx123_0, hx123_1, hx123_2, hx123_3, hx123_4, hx123_5, hx123_6, hx123_7⟩ := at_T37 (Kd.V_reads' HO_0.out).2.2 (ji11) p123 q123
                            obtain rfl : ad122 = ad123 := (by injection e123)
                            replace p123 := eq_true p123
                            replace q123 := eq_true q123
                            go_wp2
                            repeat (go_quiet (fail); try go_wp2)
                            go_roundg kj3
                            case measure => have := HK1.out; have := HK2.out; have := HJ3.out; omega
                            case rel => exact ⟨(wrap64 (x3_2 + 1)), (by first | rfl | (simp; done) | (simp [*]; done)), H', ⟨by have := HK1.out; have := HK2.out; have := HJ3.out; omega⟩, ⟨by (with_reducible repeat (first | apply Kd.V_alloc | apply Kd.V_drewN | apply Kd.V_drew)); exact HO_0.out⟩, ⟨by repeat (first | (with_reducible first | exact HB.out | apply below_alloc | apply pw_below_drewN | apply below_drew1) | exact HB.out)⟩⟩
                        · rw [if_neg c13] at H
                          exact absurd H (by simp)
                      · rw [if_neg c12] at H
                        exact absurd H (by simp)
                    · rw [if_neg c10] at H
                      exact absurd H (by simp)
                  · rw [if_neg c9] at H
                    exact absurd H (by simp)
                · replace c8 := Bool.eq_false_iff.mpr c8
                  subst c8
                  have H1 : (if 0 ≤ (wrap64 (x3_2 - 1)) then (if (wrap64 (x3_2 - 1)) < (x0_1.length : Int) then (if 0 < (x0_1.length : Int) then (if (!(((rd_T37 x0_1 (wrap64 (x3_2 - 1))).f4.f0) == ((rd_T37 x0_1 0).f2.f0)) || (!(((rd_T37 x0_1 (wrap64 (x3_2 - 1))).f4.f1) == ((rd_T37 x0_1 0).f2.f1)))) = true then (some false) else (if 0 ≤ x3_2 then (if x3_2 ≤ (x0_1.length : Int) then (edge_Closed.l0 kj3 (x0_1.drop (x3_2 : Int).toNat)) else (none)) else (none))) else (none)) else (none)) else (none)) = some r := by rw [if_neg (show ¬ (false = true) by decide)] at H; exact H
                  clear H
                  have H := H1
                  clear H1
                  obtain ⟨ji15, hji15⟩ : ∃ j_ : Int, (wrap64 (x3_2 - 1)) = j_ := ⟨_, rfl⟩
                  replace H : (if 0 ≤ (ji15) then (if (ji15) < (x0_1.length : Int) then (if 0 < (x0_1.length : Int) then (if (!(((rd_T37 x0_1 (ji15)).f4.f0) == ((rd_T37 x0_1 0).f2.f0)) || (!(((rd_T37 x0_1 (ji15)).f4.f1) == ((rd_T37 x0_1 0).f2.f1)))) = true then (some false) else (if 0 ≤ x3_2 then (if x3_2 ≤ (x0_1.length : Int) then (edge_Closed.l0 kj3 (x0_1.drop (x3_2 : Int).toNat)) else (none)) else (none))) else (none)) else (none)) else (none)) = some r := by first | (rw [hji15] at H; exact H) | (simp only [hji15] at H ⊢; exact H)
                  have hji15w : (IntKind.i64.wrap (x3_2 - 1)) = ji15 := (i64_w _).trans hji15
                  by_cases c16 : 0 ≤ (ji15)
                  · rw [if_pos c16] at H
                    have c16b0 : decide (0 ≤ (ji15)) = true := decide_eq_true c16
                    clear c16
                    by_cases c17 : (ji15) < (x0_1.length : Int)
                    · rw [if_pos c17] at H
                      have c17b0 : decide ((ji15) < (x0_1.length : Int)) = true := decide_eq_true c17
                      clear c17
                      by_cases c18 : 0 < (x0_1.length : Int)
                      · rw [if_pos c18] at H
                        have c18b0 : decide (0 < (x0_1.length : Int)) = true := decide_eq_true c18
                        have c18b1 : decide (0 < x0_1.length) = true := decide_eq_true (by omega)
                        clear c18
                        by_cases c19 : (!(((rd_T37 x0_1 (ji15)).f4.f0) == ((rd_T37 x0_1 0).f2.f0)) || (!(((rd_T37 x0_1 (ji15)).f4.f1) == ((rd_T37 x0_1 0).f2.f1)))) = true
                        · rw [if_pos c19] at H
                          have c19b0 : (!(((rd_T37 x0_1 (ji15)).f4.f0) == ((rd_T37 x0_1 0).f2.f0)) || (!(((rd_T37 x0_1 (ji15)).f4.f1) == ((rd_T37 x0_1 0).f2.f1)))) = true := c19
                          clear c19
                          obtain rfl := Option.some.inj H
                          have p124 : 0 ≤ ((ji15) : Int) := of_decide_eq_true (by first | (with_reducible assumption) | assumption)
                          have q124 : (ji15) < (x0_1.length : Int) := of_decide_eq_true (by first | (with_reducible assumption) | assumption)
                          obtain ⟨ad124, e124, hx124_0, hx124_1, hx124_2, hx124_3, hx124_4, hx124_5, hx124_6, hx124_7⟩ := at_T37 (Kd.V_reads' HO_0.out).2.2 (ji15) p124 q124
                          cases e124
                          replace p124 := eq_true p124
                          replace q124 := eq_true q124
                          have p125 : 0 ≤ (0 : Int) := (by omega)
                          have q125 : 0 < (x0_1.length : Int) := of_decide_eq_true (by first | (with_reducible assumption) | assumption)
                          obtain ⟨ad125, e125, hx125_0, hx125_1, hx125_2, hx125_3, hx125_4, hx125_5, hx125_6, hx125_7⟩ := at_T37 (Kd.V_reads' HO_0.out).2.2 0 p125 q125
                          obtain rfl : ad124 = ad125 := (by injection e125)
                          have qi125 : (0 < x0_1.length) = True := eq_true (by omega)
                          (try rw [show ((0 : Int)).toNat = 0 from rfl] at hx125_0)
                          (try rw [show 0 * 8 = 0 from rfl] at hx125_0)
                          (try rw [Addr.add_zero'] at hx125_0)
                          (try rw [show ((0 : Int)).toNat = 0 from rfl] at hx125_1)
                          (try rw [show 0 * 8 = 0 from rfl] at hx125_1)
                          (try rw [Addr.add_zero'] at hx125_1)
                          (try rw [show ((0 : Int)).toNat = 0 from rfl] at hx125_2)
                          (try rw [show 0 * 8 = 0 from rfl] at hx125_2)
                          (try rw [Addr.add_zero'] at hx125_2)
                          (try rw [show ((0 : Int)).toNat = 0 from rfl] at hx125_3)
                          (try rw [show 0 * 8 = 0 from rfl] at hx125_3)
                          (try rw [Addr.add_zero'] at hx125_3)
                          (try rw [show ((0 : Int)).toNat = 0 from rfl] at hx125_4)
                          (try rw [show 0 * 8 = 0 from rfl] at hx125_4)
                          (try rw [Addr.add_zero'] at hx125_4)
                          (try rw [show ((0 : Int)).toNat = 0 from rfl] at hx125_5)
                          (try rw [show 0 * 8 = 0 from rfl] at hx125_5)
                          (try rw [Addr.add_zero'] at hx125_5)
                          (try rw [show ((0 : Int)).toNat = 0 from rfl] at hx125_6)
                          (try rw [show 0 * 8 = 0 from rfl] at hx125_6)
                          (try rw [Addr.add_zero'] at hx125_6)
                          (try rw [show ((0 : Int)).toNat = 0 from rfl] at hx125_7)
                          (try rw [show 0 * 8 = 0 from rfl] at hx125_7)
                          (try rw [Addr.add_zero'] at hx125_7)
                          replace p125 := eq_true p125
                          replace q125 := eq_true q125
                          go_wp2
                          repeat (go_quiet (fail); try go_wp2)
                          go_ret
                          exact ⟨by first | rfl | (simp [errW_none, errW_some] <;> rfl) | (simp only [← hji15]; first | rfl | (simp [errW_none, errW_some] <;> rfl)) | (simp [*, errW_none, errW_some] <;> rfl), by repeat (first | (with_reducible first | exact HB.out | apply below_alloc | apply pw_below_drewN | apply below_drew1) | exact HB.out)⟩
                        · rw [if_neg c19] at H
                          have c19b0 : (!(((rd_T37 x0_1 (ji15)).f4.f0) == ((rd_T37 x0_1 0).f2.f0)) || (!(((rd_T37 x0_1 (ji15)).f4.f1) == ((rd_T37 x0_1 0).f2.f1)))) = false := by simpa using c19
                          clear c19
                          by_cases c20 : 0 ≤ x3_2
                          · rw [if_pos c20] at H
                            have c20b0 := eq_true c20
                            have c20b1 : decide (0 ≤ x3_2) = true := decide_eq_true c20
                            clear c20
                            by_cases c21 : x3_2 ≤ (x0_1.length : Int)
                            · rw [if_pos c21] at H
                              have c21b0 := eq_true c21
                              have c21b1 : decide (x3_2 ≤ (x0_1.length : Int)) = true := decide_eq_true c21
                              clear c21
                              obtain ⟨y126, hy126⟩ : ∃ y_ : List (S37), y_ = (x0_1.drop (x3_2 : Int).toNat) := ⟨_, rfl⟩
                              replace H : (edge_Closed.l0 kj3 y126) = some r := by first | (rw [hy126]; with_reducible exact H) | (have H2_ := (Option.bind_some _ _).symm.trans H; rw [hy126]; with_reducible exact H2_) | (have H2_ := (Option.bind_some _ _).symm.trans H; with_reducible exact H2_) | with_reducible exact H | (rw [hy126]; exact H) | exact H
                              have Ny126 := Aside0.mk hy126
                              clear hy126
                              have H' := Aside0.mk H
                              clear H
                              have p124 : 0 ≤ ((ji15) : Int) := of_decide_eq_true (by first | (with_reducible assumption) | assumption)
                              have q124 : (ji15) < (x0_1.length : Int) := of_decide_eq_true (by first | (with_reducible assumption) | assumption)
                              obtain ⟨ad124, e124, hx124_0, hx124_1, hx124_2, hx124_3, hx124_4, hx124_5, hx124_6, hx124_7⟩ := at_T37 (Kd.V_reads' HO_0.out).2.2 (ji15) p124 q124
                              cases e124
                              replace p124 := eq_true p124
                              replace q124 := eq_true q124
                              have p125 : 0 ≤ (0 : Int) := (by omega)
                              have q125 : 0 < (x0_1.length : Int) := of_decide_eq_true (by first | (with_reducible assumption) | assumption)
                              obtain ⟨ad125, e125, hx125_0, hx125_1, hx125_2, hx125_3, hx125_4, hx125_5, hx125_6, hx125_7⟩ := at_T37 (Kd.V_reads' HO_0.out).2.2 0 p125 q125
                              obtain rfl : ad124 = ad125 := (by injection e125)
                              have qi125 : (0 < x0_1.length) = True := eq_true (by omega)
                              (try rw [show ((0 : Int)).toNat = 0 from rfl] at hx125_0)
                              (try rw [show 0 * 8 = 0 from rfl] at hx125_0)
                              (try rw [Addr.add_zero'] at hx125_0)
                              (try rw [show ((0 : Int)).toNat = 0 from rfl] at hx125_1)
                              (try rw [show 0 * 8 = 0 from rfl] at hx125_1)
                              (try rw [Addr.add_zero'] at hx125_1)
                              (try rw [show ((0 : Int)).toNat = 0 from rfl] at hx125_2)
                              (try rw [show 0 * 8 = 0 from rfl] at hx125_2)
                              (try rw [Addr.add_zero'] at hx125_2)
                              (try rw [show ((0 : Int)).toNat = 0 from rfl] at hx125_3)
                              (try rw [show 0 * 8 = 0 from rfl] at hx125_3)
                              (try rw [Addr.add_zero'] at hx125_3)
                              (try rw [show ((0 : Int)).toNat = 0 from rfl] at hx125_4)
                              (try rw [show 0 * 8 = 0 from rfl] at hx125_4)
                              (try rw [Addr.add_zero'] at hx125_4)
                              (try rw [show ((0 : Int)).toNat = 0 from rfl] at hx125_5)
                              (try rw [show 0 * 8 = 0 from rfl] at hx125_5)
                              (try rw [Addr.add_zero'] at hx125_5)
                              (try rw [show ((0 : Int)).toNat = 0 from rfl] at hx125_6)
                              (try rw [show 0 * 8 = 0 from rfl] at hx125_6)
                              (try rw [Addr.add_zero'] at hx125_6)
                              (try rw [show ((0 : Int)).toNat = 0 from rfl] at hx125_7)
                              (try rw [show 0 * 8 = 0 from rfl] at hx125_7)
                              (try rw [Addr.add_zero'] at hx125_7)
                              replace p125 := eq_true p125
                              replace q125 := eq_true q125
                              have q22 : (x3_2 : Int) ≤ ((x0_1.length : Int) : Int) := of_decide_eq_true (by first | (with_reducible assumption) | assumption)
                              obtain ⟨i022, hi022, _, hsz22, _⟩ := info_parts info37
                              have hroom22 : x0_1.length ≤ co3 := (Kd.V_reads' HO_0.out).2.1
                              have hC22 : Kd.F k37 _ _ (some ad124) x0_1.length x0_1 := (Kd.V_at (base := w.heap.size) HO_0.out).2.2
                              have q022 : (0 : Int) ≤ (x3_2 : Int) := of_decide_eq_true (by first | (with_reducible assumption) | assumption)
                              have hcut22 := cut_from (P := Try.prog) 38 37 .i64 Try.underlying38 hi022 8 hsz22 (some ad124) x0_1.length co3 x3_2 q022 q22
                              have hr22 := Kd.F_cut (m := (x3_2 : Int).toNat) (c := co3) hC22 (by omega) hroom22
                              obtain ⟨A22, hA22⟩ : ∃ A1, A1 = (if co3 = (x3_2 : Int).toNat then (some ad124) else ((some ad124) : Option Addr).map (·.add ((x3_2 : Int).toNat * 8))) := ⟨_, rfl⟩
                              obtain ⟨c22, hc22⟩ : ∃ c1, c1 = co3 - (x3_2 : Int).toNat := ⟨_, rfl⟩
                              have hy22 : y126.length = x0_1.length - (x3_2 : Int).toNat := (by rw [Ny126.out, List.length_drop] <;> omega)
                              rw [show (x0_1).drop (x3_2 : Int).toNat = y126 from Ny126.out.symm] at hr22
                              replace hr22 : Kd.F k37 _ _ A22 y126.length y126 := (by rw [hA22]; exact hr22)
                              rw [← hy22, ← hA22, ← hc22] at hcut22
                              have HO130 := Aside0.mk (show Kd.V k37 37 _ w.heap.size _ (.slice A22 y126.length c22) y126 from Kd.V_mk (by rw [hy22, hc22]; exact Nat.sub_le_sub_right hroom22 _) hr22)
                              have HC130 := Aside0.mk (show y126.length ≤ c22 from by rw [hy22, hc22]; exact Nat.sub_le_sub_right hroom22 _)
                              clear hr22 hC22 hroom22 hi022 hsz22 hc22
                              have KY22 := Aside0.mk hy22
                              have KA22 := Aside0.mk hA22
                              clear hy22 hA22
                              replace q22 := eq_true q22
                              go_wp2
                              repeat (go_quiet (fail); try go_wp2)
                              go_roundg kj3
                              case measure => have := HK1.out; have := HK2.out; have := HJ3.out; omega
                              case rel => exact ⟨(y126), H', ⟨by have := HK1.out; have := HK2.out; have := HJ3.out; omega⟩, ⟨by (with_reducible repeat (first | apply Kd.V_alloc | apply Kd.V_drewN | apply Kd.V_drew)); exact HO130.out⟩, ⟨by repeat (first | (with_reducible first | exact HB.out | apply below_alloc | apply pw_below_drewN | apply below_drew1) | exact HB.out)⟩⟩
                            · rw [if_neg c21] at H
                              exact absurd H (by simp)
                          · rw [if_neg c20] at H
                            exact absurd H (by simp)
                      · rw [if_neg c18] at H
                        exact absurd H (by simp)
                    · rw [if_neg c17] at H
                      exact absurd H (by simp)
                  · rw [if_neg c16] at H
                    exact absurd H (by simp)
      · rw [if_neg c2] at H
        have c2b0 : decide (0 < (x0_1.length : Int)) = false := decide_eq_false c2
        have c2b1 : decide (0 < x0_1.length) = false := decide_eq_false (by omega)
        clear c2
        obtain rfl := Option.some.inj H
        obtain ⟨Ao23, co23, eo23⟩ := Kd.V_slice HO_0.out
        subst eo23
        go_wp2
        repeat (go_quiet (fail); try go_wp2)
        go_ret
        exact ⟨by first | rfl | (simp [errW_none, errW_some] <;> rfl) | (simp [*, errW_none, errW_some] <;> rfl), by repeat (first | (with_reducible first | exact HB.out | apply below_alloc | apply pw_below_drewN | apply below_drew1) | exact HB.out)⟩

/-! ### edge_fine: function 23 -/
def edge_fine.l0 : Nat → List (S27) → Int → Int → Option (Bool)
  | 0, _, _, _ => none
  | k + 1, x5, x6, x7 => if x7 < x6 then (if 0 ≤ x7 then (if x7 < (x5.length : Int) then (if ((rd_T27 x5 x7).f0) < (-33554432) then (some false) else (if ((rd_T27 x5 x7).f0) > 33554432 then (some false) else (if ((rd_T27 x5 x7).f1) < (-33554432) then (some false) else (if ((rd_T27 x5 x7).f1) > 33554432 then (some false) else (edge_fine.l0 k x5 x6 (wrap64 (x7 + 1))))))) else (none)) else (none)) else (some true)
def edge_fine.f (k : Nat) (l0 : List (S27)) : Option (Bool) := edge_fine.l0 k l0 (l0.length : Int) 0
theorem edge_fine.mono_l : ∀ k, (∀ y0 y1 y2, LeO (edge_fine.l0 k y0 y1 y2) (edge_fine.l0 (k + 1) y0 y1 y2))
  | 0 => fun _ _ _ r h => by simp [edge_fine.l0] at h
  | k + 1 => by
    have ih0 := edge_fine.mono_l k
    · intro y0 y1 y2
      unfold edge_fine.l0
      repeat' first
      | (with_reducible exact ih0 _ _ _)
      | (with_reducible exact LeO.refl _)
      | (with_reducible exact LeO.none _)
      | (with_reducible refine LeO.ite ?_ ?_)
      | (with_reducible refine LeO.bind ?_ (fun _ => ?_))
      | exact ih0 _ _ _
      | exact LeO.none _
      | refine LeO.ite ?_ ?_
      | refine LeO.bind ?_ (fun _ => ?_)
theorem edge_fine.mono : ∀ a0 k, LeO (edge_fine.f k a0) (edge_fine.f (k + 1) a0) := by
  intro a0 k
  have ih0 := edge_fine.mono_l k
  unfold edge_fine.f
  repeat' first
      | (with_reducible exact ih0 _ _ _)
      | (with_reducible exact LeO.refl _)
      | (with_reducible exact LeO.none _)
      | (with_reducible refine LeO.ite ?_ ?_)
      | (with_reducible refine LeO.bind ?_ (fun _ => ?_))
      | exact ih0 _ _ _
      | exact LeO.none _
      | refine LeO.ite ?_ ?_
      | refine LeO.bind ?_ (fun _ => ?_)
set_option maxHeartbeats 8000000 in
set_option maxRecDepth 100000 in
theorem edge_fine.calls (k : Nat) (A0 : Option Addr) (c0 : Nat) (l0 : List (S27)) (r : Bool) (w : World) (hr0 : Kd.C k27 w A0 l0.length l0) (hc0 : l0.length ≤ c0) (h : edge_fine.f k l0 = some r) :
    Calls Try.prog 23 #[.slice A0 l0.length c0] w fun e w' => e = .returned (.bool r) ∧ Below w.heap.size w w' := by
  have hu27 := Try.underlying27
  have HR0 := Aside0.mk hr0
  have HC0 := Aside0.mk hc0
  clear hr0 hc0
  have HB := Aside0.mk (Below.refl w.heap.size w)
  have H : (edge_fine.l0 k l0 (l0.length : Int) 0) = some r := h
  clear h
  have H' := Aside0.mk H
  clear H
  go_enter Try.func23, Try.ntmps23
  go_wp2
  go_loopg [7] k (fun kq v7 w' => ∃ (x7_1 : Int), v7 = .int .i64 x7_1 ∧ Aside0 (edge_fine.l0 kq l0 (l0.length : Int) x7_1 = some r) ∧ Aside0 (kq ≤ k) ∧ Aside0 (Below w.heap.size w w'))
  case atStart => exact ⟨(0), (by first | rfl | (simp; done) | (simp [*]; done)), H', ⟨Nat.le_refl _⟩, ⟨by repeat (first | (with_reducible first | exact HB.out | apply below_alloc | apply pw_below_drewN | apply below_drew1) | exact HB.out)⟩⟩
  case round =>
    clear H'
    obtain ⟨x7_1, rfl, HA, HK1, HB⟩ := hrel
    cases gk with
    | zero => exact absurd HA.out (by simp [edge_fine.l0])
    | succ k1 =>
      have H := HA.out
      clear HA
      simp only [edge_fine.l0] at H
      by_cases c2 : x7_1 < (l0.length : Int)
      · rw [if_pos c2] at H
        have c2b0 : decide (x7_1 < (l0.length : Int)) = true := decide_eq_true c2
        clear c2
        by_cases c3 : 0 ≤ x7_1
        · rw [if_pos c3] at H
          have c3b0 : decide (0 ≤ x7_1) = true := decide_eq_true c3
          clear c3
          by_cases c4 : x7_1 < (l0.length : Int)
          · rw [if_pos c4] at H
            have c4b0 : decide (x7_1 < (l0.length : Int)) = true := decide_eq_true c4
            clear c4
            by_cases c5 : ((rd_T27 l0 x7_1).f0) < (-33554432)
            · rw [if_pos c5] at H
              have c5b0 : decide (((rd_T27 l0 x7_1).f0) < (-33554432)) = true := decide_eq_true c5
              clear c5
              obtain rfl := Option.some.inj H
              have p131 : 0 ≤ (x7_1 : Int) := of_decide_eq_true (by first | (with_reducible assumption) | assumption)
              have q131 : x7_1 < (l0.length : Int) := of_decide_eq_true (by first | (with_reducible assumption) | assumption)
              obtain ⟨ad131, e131, hx131_0, hx131_1⟩ := at_T27 HR0.out x7_1 p131 q131
              cases e131
              replace hx131_0 := (HB.out.cell (World.block_lt_of_cell? w _ hx131_0)).trans hx131_0
              replace hx131_1 := (HB.out.cell (World.block_lt_of_cell? w _ hx131_1)).trans hx131_1
              replace p131 := eq_true p131
              replace q131 := eq_true q131
              go_wp2_with (first | ((with_reducible refine gate_dst (N := 4) rfl ?_); refine box_event ?hg (N := 4) ?hd (cs := #[.int .i64 0, .int .i64 0]) (t := 27) ?hr ?_; (case hd => rfl); (case hg => rfl); (case hr => first | (go_simp; done) | (go_simp; rfl)); intro gb132 hg w6 hbox hb; have n0_ := Aside0.mk (below_step (by repeat (first | (with_reducible first | exact HB.out | apply below_alloc | apply pw_below_drewN | apply below_drew1) | exact HB.out)) hb); have n1_ := Aside0.mk (hbox); have n2_ := Aside0.mk ((by rw [hg]; exact (below_size (by repeat (first | (with_reducible first | exact HB.out | apply below_alloc | apply pw_below_drewN | apply below_drew1) | exact HB.out))) : w.heap.size ≤ gb132)); have n3_ := Aside0.mk ((by rw [hg]; exact (below_size (by repeat (first | (with_reducible first | exact HB.out | apply below_alloc | apply pw_below_drewN | apply below_drew1) | exact HB.out))) : w.heap.size ≤ gb132)); clear HB; have HB := n0_; have BK132 := n1_; have GW132 := n2_; have GE132 := n3_; clear n0_ n1_ n2_ n3_; clear hb hbox hg; have hcz7_0 : w6.cell? ⟨gb132, 0, none⟩ = some (.int .i64 0) := (blk_cell BK132.out 0).trans rfl; have hcz7_1 : w6.cell? ⟨gb132, 1, none⟩ = some (.int .i64 0) := (blk_cell BK132.out 1).trans rfl; have hfz7_0 := blk_frozen BK132.out 0; have hfz7_1 := blk_frozen BK132.out 1))
              go_ret
              exact ⟨by first | rfl | (simp [errW_none, errW_some] <;> rfl) | (simp [*, errW_none, errW_some] <;> rfl), by repeat (first | (with_reducible first | exact HB.out | apply below_alloc | apply pw_below_drewN | apply below_drew1 | refine below_set ?_ GE132.out) | exact HB.out)⟩
            · rw [if_neg c5] at H
              have c5b0 : decide (((rd_T27 l0 x7_1).f0) < (-33554432)) = false := decide_eq_false c5
              clear c5
              by_cases c8 : ((rd_T27 l0 x7_1).f0) > 33554432
              · rw [if_pos c8] at H
                have c8b0 : decide (33554432 < ((rd_T27 l0 x7_1).f0)) = true := decide_eq_true c8
                clear c8
                obtain rfl := Option.some.inj H
                have p131 : 0 ≤ (x7_1 : Int) := of_decide_eq_true (by first | (with_reducible assumption) | assumption)
                have q131 : x7_1 < (l0.length : Int) := of_decide_eq_true (by first | (with_reducible assumption) | assumption)
                obtain ⟨ad131, e131, hx131_0, hx131_1⟩ := at_T27 HR0.out x7_1 p131 q131
                cases e131
                replace hx131_0 := (HB.out.cell (World.block_lt_of_cell? w _ hx131_0)).trans hx131_0
                replace hx131_1 := (HB.out.cell (World.block_lt_of_cell? w _ hx131_1)).trans hx131_1
                replace p131 := eq_true p131
                replace q131 := eq_true q131
                go_wp2_with (first | ((with_reducible refine gate_dst (N := 4) rfl ?_); refine box_event ?hg (N := 4) ?hd (cs := #[.int .i64 0, .int .i64 0]) (t := 27) ?hr ?_; (case hd => rfl); (case hg => rfl); (case hr => first | (go_simp; done) | (go_simp; rfl)); intro gb132 hg w9 hbox hb; have n0_ := Aside0.mk (below_step (by repeat (first | (with_reducible first | exact HB.out | apply below_alloc | apply pw_below_drewN | apply below_drew1) | exact HB.out)) hb); have n1_ := Aside0.mk (hbox); have n2_ := Aside0.mk ((by rw [hg]; exact (below_size (by repeat (first | (with_reducible first | exact HB.out | apply below_alloc | apply pw_below_drewN | apply below_drew1) | exact HB.out))) : w.heap.size ≤ gb132)); have n3_ := Aside0.mk ((by rw [hg]; exact (below_size (by repeat (first | (with_reducible first | exact HB.out | apply below_alloc | apply pw_below_drewN | apply below_drew1) | exact HB.out))) : w.heap.size ≤ gb132)); clear HB; have HB := n0_; have BK132 := n1_; have GW132 := n2_; have GE132 := n3_; clear n0_ n1_ n2_ n3_; clear hb hbox hg; have hcz10_0 : w9.cell? ⟨gb132, 0, none⟩ = some (.int .i64 0) := (blk_cell BK132.out 0).trans rfl; have hcz10_1 : w9.cell? ⟨gb132, 1, none⟩ = some (.int .i64 0) := (blk_cell BK132.out 1).trans rfl; have hfz10_0 := blk_frozen BK132.out 0; have hfz10_1 := blk_frozen BK132.out 1))
                go_ret
                exact ⟨by first | rfl | (simp [errW_none, errW_some] <;> rfl) | (simp [*, errW_none, errW_some] <;> rfl), by repeat (first | (with_reducible first | exact HB.out | apply below_alloc | apply pw_below_drewN | apply below_drew1 | refine below_set ?_ GE132.out) | exact HB.out)⟩
              · rw [if_neg c8] at H
                have c8b0 : decide (33554432 < ((rd_T27 l0 x7_1).f0)) = false := decide_eq_false c8
                clear c8
                by_cases c11 : ((rd_T27 l0 x7_1).f1) < (-33554432)
                · rw [if_pos c11] at H
                  have c11b0 : decide (((rd_T27 l0 x7_1).f1) < (-33554432)) = true := decide_eq_true c11
                  clear c11
                  obtain rfl := Option.some.inj H
                  have p131 : 0 ≤ (x7_1 : Int) := of_decide_eq_true (by first | (with_reducible assumption) | assumption)
                  have q131 : x7_1 < (l0.length : Int) := of_decide_eq_true (by first | (with_reducible assumption) | assumption)
                  obtain ⟨ad131, e131, hx131_0, hx131_1⟩ := at_T27 HR0.out x7_1 p131 q131
                  cases e131
                  replace hx131_0 := (HB.out.cell (World.block_lt_of_cell? w _ hx131_0)).trans hx131_0
                  replace hx131_1 := (HB.out.cell (World.block_lt_of_cell? w _ hx131_1)).trans hx131_1
                  replace p131 := eq_true p131
                  replace q131 := eq_true q131
                  go_wp2_with (first | ((with_reducible refine gate_dst (N := 4) rfl ?_); refine box_event ?hg (N := 4) ?hd (cs := #[.int .i64 0, .int .i64 0]) (t := 27) ?hr ?_; (case hd => rfl); (case hg => rfl); (case hr => first | (go_simp; done) | (go_simp; rfl)); intro gb132 hg w12 hbox hb; have n0_ := Aside0.mk (below_step (by repeat (first | (with_reducible first | exact HB.out | apply below_alloc | apply pw_below_drewN | apply below_drew1) | exact HB.out)) hb); have n1_ := Aside0.mk (hbox); have n2_ := Aside0.mk ((by rw [hg]; exact (below_size (by repeat (first | (with_reducible first | exact HB.out | apply below_alloc | apply pw_below_drewN | apply below_drew1) | exact HB.out))) : w.heap.size ≤ gb132)); have n3_ := Aside0.mk ((by rw [hg]; exact (below_size (by repeat (first | (with_reducible first | exact HB.out | apply below_alloc | apply pw_below_drewN | apply below_drew1) | exact HB.out))) : w.heap.size ≤ gb132)); clear HB; have HB := n0_; have BK132 := n1_; have GW132 := n2_; have GE132 := n3_; clear n0_ n1_ n2_ n3_; clear hb hbox hg; have hcz13_0 : w12.cell? ⟨gb132, 0, none⟩ = some (.int .i64 0) := (blk_cell BK132.out 0).trans rfl; have hcz13_1 : w12.cell? ⟨gb132, 1, none⟩ = some (.int .i64 0) := (blk_cell BK132.out 1).trans rfl; have hfz13_0 := blk_frozen BK132.out 0; have hfz13_1 := blk_frozen BK132.out 1))
                  go_ret
                  exact ⟨by first | rfl | (simp [errW_none, errW_some] <;> rfl) | (simp [*, errW_none, errW_some] <;> rfl), by repeat (first | (with_reducible first | exact HB.out | apply below_alloc | apply pw_below_drewN | apply below_drew1 | refine below_set ?_ GE132.out) | exact HB.out)⟩
                · rw [if_neg c11] at H
                  have c11b0 : decide (((rd_T27 l0 x7_1).f1) < (-33554432)) = false := decide_eq_false c11
                  clear c11
                  by_cases c14 : ((rd_T27 l0 x7_1).f1) > 33554432
                  · rw [if_pos c14] at H
                    have c14b0 : decide (33554432 < ((rd_T27 l0 x7_1).f1)) = true := decide_eq_true c14
                    clear c14
                    obtain rfl := Option.some.inj H
                    have p131 : 0 ≤ (x7_1 : Int) := of_decide_eq_true (by first | (with_reducible assumption) | assumption)
                    have q131 : x7_1 < (l0.length : Int) := of_decide_eq_true (by first | (with_reducible assumption) | assumption)
                    obtain ⟨ad131, e131, hx131_0, hx131_1⟩ := at_T27 HR0.out x7_1 p131 q131
                    cases e131
                    replace hx131_0 := (HB.out.cell (World.block_lt_of_cell? w _ hx131_0)).trans hx131_0
                    replace hx131_1 := (HB.out.cell (World.block_lt_of_cell? w _ hx131_1)).trans hx131_1
                    replace p131 := eq_true p131
                    replace q131 := eq_true q131
                    go_wp2_with (first | ((with_reducible refine gate_dst (N := 4) rfl ?_); refine box_event ?hg (N := 4) ?hd (cs := #[.int .i64 0, .int .i64 0]) (t := 27) ?hr ?_; (case hd => rfl); (case hg => rfl); (case hr => first | (go_simp; done) | (go_simp; rfl)); intro gb132 hg w15 hbox hb; have n0_ := Aside0.mk (below_step (by repeat (first | (with_reducible first | exact HB.out | apply below_alloc | apply pw_below_drewN | apply below_drew1) | exact HB.out)) hb); have n1_ := Aside0.mk (hbox); have n2_ := Aside0.mk ((by rw [hg]; exact (below_size (by repeat (first | (with_reducible first | exact HB.out | apply below_alloc | apply pw_below_drewN | apply below_drew1) | exact HB.out))) : w.heap.size ≤ gb132)); have n3_ := Aside0.mk ((by rw [hg]; exact (below_size (by repeat (first | (with_reducible first | exact HB.out | apply below_alloc | apply pw_below_drewN | apply below_drew1) | exact HB.out))) : w.heap.size ≤ gb132)); clear HB; have HB := n0_; have BK132 := n1_; have GW132 := n2_; have GE132 := n3_; clear n0_ n1_ n2_ n3_; clear hb hbox hg; have hcz16_0 : w15.cell? ⟨gb132, 0, none⟩ = some (.int .i64 0) := (blk_cell BK132.out 0).trans rfl; have hcz16_1 : w15.cell? ⟨gb132, 1, none⟩ = some (.int .i64 0) := (blk_cell BK132.out 1).trans rfl; have hfz16_0 := blk_frozen BK132.out 0; have hfz16_1 := blk_frozen BK132.out 1))
                    go_ret
                    exact ⟨by first | rfl | (simp [errW_none, errW_some] <;> rfl) | (simp [*, errW_none, errW_some] <;> rfl), by repeat (first | (with_reducible first | exact HB.out | apply below_alloc | apply pw_below_drewN | apply below_drew1 | refine below_set ?_ GE132.out) | exact HB.out)⟩
                  · rw [if_neg c14] at H
                    have c14b0 : decide (33554432 < ((rd_T27 l0 x7_1).f1)) = false := decide_eq_false c14
                    clear c14
                    have H' := Aside0.mk H
                    clear H
                    have p131 : 0 ≤ (x7_1 : Int) := of_decide_eq_true (by first | (with_reducible assumption) | assumption)
                    have q131 : x7_1 < (l0.length : Int) := of_decide_eq_true (by first | (with_reducible assumption) | assumption)
                    obtain ⟨ad131, e131, hx131_0, hx131_1⟩ := at_T27 HR0.out x7_1 p131 q131
                    cases e131
                    replace hx131_0 := (HB.out.cell (World.block_lt_of_cell? w _ hx131_0)).trans hx131_0
                    replace hx131_1 := (HB.out.cell (World.block_lt_of_cell? w _ hx131_1)).trans hx131_1
                    replace p131 := eq_true p131
                    replace q131 := eq_true q131
                    go_wp2_with (first | ((with_reducible refine gate_dst (N := 4) rfl ?_); refine box_event ?hg (N := 4) ?hd (cs := #[.int .i64 0, .int .i64 0]) (t := 27) ?hr ?_; (case hd => rfl); (case hg => rfl); (case hr => first | (go_simp; done) | (go_simp; rfl)); intro gb132 hg w17 hbox hb; have n0_ := Aside0.mk (below_step (by repeat (first | (with_reducible first | exact HB.out | apply below_alloc | apply pw_below_drewN | apply below_drew1) | exact HB.out)) hb); have n1_ := Aside0.mk (hbox); have n2_ := Aside0.mk ((by rw [hg]; exact (below_size (by repeat (first | (with_reducible first | exact HB.out | apply below_alloc | apply pw_below_drewN | apply below_drew1) | exact HB.out))) : w.heap.size ≤ gb132)); have n3_ := Aside0.mk ((by rw [hg]; exact (below_size (by repeat (first | (with_reducible first | exact HB.out | apply below_alloc | apply pw_below_drewN | apply below_drew1) | exact HB.out))) : w.heap.size ≤ gb132)); clear HB; have HB := n0_; have BK132 := n1_; have GW132 := n2_; have GE132 := n3_; clear n0_ n1_ n2_ n3_; clear hb hbox hg; have hcz18_0 : w17.cell? ⟨gb132, 0, none⟩ = some (.int .i64 0) := (blk_cell BK132.out 0).trans rfl; have hcz18_1 : w17.cell? ⟨gb132, 1, none⟩ = some (.int .i64 0) := (blk_cell BK132.out 1).trans rfl; have hfz18_0 := blk_frozen BK132.out 0; have hfz18_1 := blk_frozen BK132.out 1))
                    go_roundg k1
                    case measure => have := HK1.out; omega
                    case rel => exact ⟨(wrap64 (x7_1 + 1)), (by first | rfl | (simp; done) | (simp [*]; done)), H', ⟨by have := HK1.out; omega⟩, ⟨by repeat (first | (with_reducible first | exact HB.out | apply below_alloc | apply pw_below_drewN | apply below_drew1 | refine below_set ?_ GE132.out) | exact HB.out)⟩⟩
          · rw [if_neg c4] at H
            exact absurd H (by simp)
        · rw [if_neg c3] at H
          exact absurd H (by simp)
      · rw [if_neg c2] at H
        have c2b0 : decide (x7_1 < (l0.length : Int)) = false := decide_eq_false c2
        clear c2
        obtain rfl := Option.some.inj H
        go_wp2
        go_ret
        exact ⟨by first | rfl | (simp [errW_none, errW_some] <;> rfl) | (simp [*, errW_none, errW_some] <;> rfl), by repeat (first | (with_reducible first | exact HB.out | apply below_alloc | apply pw_below_drewN | apply below_drew1) | exact HB.out)⟩

/-! ### edge_none: function 24 -/
def edge_none.f (a0_0 : Int) (a0_1 : Bool) (a0_2 : Int) (a0_3 : Int) (a0_4 : Int) (a0_5 : Int) (a0_6 : Int) (a0_7 : Int) : Option (Bool) := if (a0_2 == a0_6 && (a0_3 == a0_7)) = true then (if a0_1 = true then (some (a0_4 == a0_2 && (a0_5 == a0_3))) else (some true)) else (some false)
set_option maxHeartbeats 8000000 in
set_option maxRecDepth 100000 in
theorem edge_none.calls (a0_0 : Int) (a0_1 : Bool) (a0_2 : Int) (a0_3 : Int) (a0_4 : Int) (a0_5 : Int) (a0_6 : Int) (a0_7 : Int) (r : Bool) (w : World) (h : edge_none.f a0_0 a0_1 a0_2 a0_3 a0_4 a0_5 a0_6 a0_7 = some r) :
    Calls Try.prog 24 #[.agg #[.int .i64 a0_0, .bool a0_1, .int .i64 a0_2, .int .i64 a0_3, .int .i64 a0_4, .int .i64 a0_5, .int .i64 a0_6, .int .i64 a0_7]] w fun e w' => e = .returned (.bool r) ∧ Below w.heap.size w w' := by
  have hu37 := Try.underlying37
  have hu27 := Try.underlying27
  have HB := Aside0.mk (Below.refl w.heap.size w)
  have H : (if (a0_2 == a0_6 && (a0_3 == a0_7)) = true then (if a0_1 = true then (some (a0_4 == a0_2 && (a0_5 == a0_3))) else (some true)) else (some false)) = some r := h
  clear h
  by_cases c2 : (a0_2 == a0_6 && (a0_3 == a0_7)) = true
  · rw [if_pos c2] at H
    have c2b0 : (a0_2 == a0_6 && (a0_3 == a0_7)) = true := c2
    (try (have c2b1 : decide (a0_2 = a0_6 && (a0_3 == a0_7)) = true := by simpa using c2))
    (try (have c2b2 : (a0_2 == a0_6 && (a0_3 == a0_7)) = true := by simpa using c2))
    clear c2
    by_cases c3 : a0_1 = true
    · subst c3
      have H1 : (some (a0_4 == a0_2 && (a0_5 == a0_3))) = some r := by rw [if_pos rfl] at H; exact H
      clear H
      have H := H1
      clear H1
      obtain rfl := Option.some.inj H
      go_enter Try.func24, Try.ntmps24
      go_wp2_with (first | ((with_reducible refine gate_dst (N := 1) rfl ?_); refine box_event ?hg (N := 1) ?hd (cs := #[.int .i64 a0_0, .bool true, .int .i64 a0_2, .int .i64 a0_3, .int .i64 a0_4, .int .i64 a0_5, .int .i64 a0_6, .int .i64 a0_7]) (t := 37) ?hr ?_; (case hd => rfl); (case hg => rfl); (case hr => first | (go_simp; done) | (go_simp; rfl)); intro gb133 hg w4 hbox hb; have n0_ := Aside0.mk (below_step (by repeat (first | (with_reducible first | exact HB.out | apply below_alloc | apply pw_below_drewN | apply below_drew1) | exact HB.out)) hb); have n1_ := Aside0.mk (hbox); have n2_ := Aside0.mk ((by rw [hg]; exact (below_size (by repeat (first | (with_reducible first | exact HB.out | apply below_alloc | apply pw_below_drewN | apply below_drew1) | exact HB.out))) : w.heap.size ≤ gb133)); have n3_ := Aside0.mk ((by rw [hg]; exact (below_size (by repeat (first | (with_reducible first | exact HB.out | apply below_alloc | apply pw_below_drewN | apply below_drew1) | exact HB.out))) : w.heap.size ≤ gb133)); clear HB; have HB := n0_; have BK133 := n1_; have GW133 := n2_; have GE133 := n3_; clear n0_ n1_ n2_ n3_; clear hb hbox hg; have hcz5_0 : w4.cell? ⟨gb133, 0, none⟩ = some (.int .i64 a0_0) := (blk_cell BK133.out 0).trans rfl; have hcz5_1 : w4.cell? ⟨gb133, 1, none⟩ = some (.bool true) := (blk_cell BK133.out 1).trans rfl; have hcz5_2 : w4.cell? ⟨gb133, 2, none⟩ = some (.int .i64 a0_2) := (blk_cell BK133.out 2).trans rfl; have hcz5_3 : w4.cell? ⟨gb133, 3, none⟩ = some (.int .i64 a0_3) := (blk_cell BK133.out 3).trans rfl; have hcz5_4 : w4.cell? ⟨gb133, 4, none⟩ = some (.int .i64 a0_4) := (blk_cell BK133.out 4).trans rfl; have hcz5_5 : w4.cell? ⟨gb133, 5, none⟩ = some (.int .i64 a0_5) := (blk_cell BK133.out 5).trans rfl; have hcz5_6 : w4.cell? ⟨gb133, 6, none⟩ = some (.int .i64 a0_6) := (blk_cell BK133.out 6).trans rfl; have hcz5_7 : w4.cell? ⟨gb133, 7, none⟩ = some (.int .i64 a0_7) := (blk_cell BK133.out 7).trans rfl; have hfz5_0 := blk_frozen BK133.out 0; have hfz5_1 := blk_frozen BK133.out 1; have hfz5_2 := blk_frozen BK133.out 2; have hfz5_3 := blk_frozen BK133.out 3; have hfz5_4 := blk_frozen BK133.out 4; have hfz5_5 := blk_frozen BK133.out 5; have hfz5_6 := blk_frozen BK133.out 6; have hfz5_7 := blk_frozen BK133.out 7))
      go_ret
      exact ⟨by first | rfl | (simp [errW_none, errW_some] <;> rfl) | (simp [*, errW_none, errW_some] <;> rfl), by repeat (first | (with_reducible first | exact HB.out | apply below_alloc | apply pw_below_drewN | apply below_drew1 | refine below_set ?_ GE133.out) | exact HB.out)⟩
    · replace c3 := Bool.eq_false_iff.mpr c3
      subst c3
      have H1 : (some true) = some r := by rw [if_neg (show ¬ (false = true) by decide)] at H; exact H
      clear H
      have H := H1
      clear H1
      obtain rfl := Option.some.inj H
      go_enter Try.func24, Try.ntmps24
      go_wp2_with (first | ((with_reducible refine gate_dst (N := 1) rfl ?_); refine box_event ?hg (N := 1) ?hd (cs := #[.int .i64 a0_0, .bool false, .int .i64 a0_2, .int .i64 a0_3, .int .i64 a0_4, .int .i64 a0_5, .int .i64 a0_6, .int .i64 a0_7]) (t := 37) ?hr ?_; (case hd => rfl); (case hg => rfl); (case hr => first | (go_simp; done) | (go_simp; rfl)); intro gb133 hg w6 hbox hb; have n0_ := Aside0.mk (below_step (by repeat (first | (with_reducible first | exact HB.out | apply below_alloc | apply pw_below_drewN | apply below_drew1) | exact HB.out)) hb); have n1_ := Aside0.mk (hbox); have n2_ := Aside0.mk ((by rw [hg]; exact (below_size (by repeat (first | (with_reducible first | exact HB.out | apply below_alloc | apply pw_below_drewN | apply below_drew1) | exact HB.out))) : w.heap.size ≤ gb133)); have n3_ := Aside0.mk ((by rw [hg]; exact (below_size (by repeat (first | (with_reducible first | exact HB.out | apply below_alloc | apply pw_below_drewN | apply below_drew1) | exact HB.out))) : w.heap.size ≤ gb133)); clear HB; have HB := n0_; have BK133 := n1_; have GW133 := n2_; have GE133 := n3_; clear n0_ n1_ n2_ n3_; clear hb hbox hg; have hcz7_0 : w6.cell? ⟨gb133, 0, none⟩ = some (.int .i64 a0_0) := (blk_cell BK133.out 0).trans rfl; have hcz7_1 : w6.cell? ⟨gb133, 1, none⟩ = some (.bool false) := (blk_cell BK133.out 1).trans rfl; have hcz7_2 : w6.cell? ⟨gb133, 2, none⟩ = some (.int .i64 a0_2) := (blk_cell BK133.out 2).trans rfl; have hcz7_3 : w6.cell? ⟨gb133, 3, none⟩ = some (.int .i64 a0_3) := (blk_cell BK133.out 3).trans rfl; have hcz7_4 : w6.cell? ⟨gb133, 4, none⟩ = some (.int .i64 a0_4) := (blk_cell BK133.out 4).trans rfl; have hcz7_5 : w6.cell? ⟨gb133, 5, none⟩ = some (.int .i64 a0_5) := (blk_cell BK133.out 5).trans rfl; have hcz7_6 : w6.cell? ⟨gb133, 6, none⟩ = some (.int .i64 a0_6) := (blk_cell BK133.out 6).trans rfl; have hcz7_7 : w6.cell? ⟨gb133, 7, none⟩ = some (.int .i64 a0_7) := (blk_cell BK133.out 7).trans rfl; have hfz7_0 := blk_frozen BK133.out 0; have hfz7_1 := blk_frozen BK133.out 1; have hfz7_2 := blk_frozen BK133.out 2; have hfz7_3 := blk_frozen BK133.out 3; have hfz7_4 := blk_frozen BK133.out 4; have hfz7_5 := blk_frozen BK133.out 5; have hfz7_6 := blk_frozen BK133.out 6; have hfz7_7 := blk_frozen BK133.out 7))
      go_ret
      exact ⟨by first | rfl | (simp [errW_none, errW_some] <;> rfl) | (simp [*, errW_none, errW_some] <;> rfl), by repeat (first | (with_reducible first | exact HB.out | apply below_alloc | apply pw_below_drewN | apply below_drew1 | refine below_set ?_ GE133.out) | exact HB.out)⟩
  · rw [if_neg c2] at H
    have c2b0 : (a0_2 == a0_6 && (a0_3 == a0_7)) = false := by simpa using c2
    (try (have c2b1 : decide (a0_2 = a0_6 && (a0_3 == a0_7)) = false := by simpa using c2))
    (try (have c2b2 : (a0_2 == a0_6 && (a0_3 == a0_7)) = false := by simpa using c2))
    (try (have c2b3 : ¬ (a0_2 = a0_6 && (a0_3 == a0_7)) := by simpa using c2))
    clear c2
    obtain rfl := Option.some.inj H
    go_enter Try.func24, Try.ntmps24
    go_wp2_with (first | ((with_reducible refine gate_dst (N := 1) rfl ?_); refine box_event ?hg (N := 1) ?hd (cs := #[.int .i64 a0_0, .bool a0_1, .int .i64 a0_2, .int .i64 a0_3, .int .i64 a0_4, .int .i64 a0_5, .int .i64 a0_6, .int .i64 a0_7]) (t := 37) ?hr ?_; (case hd => rfl); (case hg => rfl); (case hr => first | (go_simp; done) | (go_simp; rfl)); intro gb133 hg w8 hbox hb; have n0_ := Aside0.mk (below_step (by repeat (first | (with_reducible first | exact HB.out | apply below_alloc | apply pw_below_drewN | apply below_drew1) | exact HB.out)) hb); have n1_ := Aside0.mk (hbox); have n2_ := Aside0.mk ((by rw [hg]; exact (below_size (by repeat (first | (with_reducible first | exact HB.out | apply below_alloc | apply pw_below_drewN | apply below_drew1) | exact HB.out))) : w.heap.size ≤ gb133)); have n3_ := Aside0.mk ((by rw [hg]; exact (below_size (by repeat (first | (with_reducible first | exact HB.out | apply below_alloc | apply pw_below_drewN | apply below_drew1) | exact HB.out))) : w.heap.size ≤ gb133)); clear HB; have HB := n0_; have BK133 := n1_; have GW133 := n2_; have GE133 := n3_; clear n0_ n1_ n2_ n3_; clear hb hbox hg; have hcz9_0 : w8.cell? ⟨gb133, 0, none⟩ = some (.int .i64 a0_0) := (blk_cell BK133.out 0).trans rfl; have hcz9_1 : w8.cell? ⟨gb133, 1, none⟩ = some (.bool a0_1) := (blk_cell BK133.out 1).trans rfl; have hcz9_2 : w8.cell? ⟨gb133, 2, none⟩ = some (.int .i64 a0_2) := (blk_cell BK133.out 2).trans rfl; have hcz9_3 : w8.cell? ⟨gb133, 3, none⟩ = some (.int .i64 a0_3) := (blk_cell BK133.out 3).trans rfl; have hcz9_4 : w8.cell? ⟨gb133, 4, none⟩ = some (.int .i64 a0_4) := (blk_cell BK133.out 4).trans rfl; have hcz9_5 : w8.cell? ⟨gb133, 5, none⟩ = some (.int .i64 a0_5) := (blk_cell BK133.out 5).trans rfl; have hcz9_6 : w8.cell? ⟨gb133, 6, none⟩ = some (.int .i64 a0_6) := (blk_cell BK133.out 6).trans rfl; have hcz9_7 : w8.cell? ⟨gb133, 7, none⟩ = some (.int .i64 a0_7) := (blk_cell BK133.out 7).trans rfl; have hfz9_0 := blk_frozen BK133.out 0; have hfz9_1 := blk_frozen BK133.out 1; have hfz9_2 := blk_frozen BK133.out 2; have hfz9_3 := blk_frozen BK133.out 3; have hfz9_4 := blk_frozen BK133.out 4; have hfz9_5 := blk_frozen BK133.out 5; have hfz9_6 := blk_frozen BK133.out 6; have hfz9_7 := blk_frozen BK133.out 7))
    go_ret
    exact ⟨by first | rfl | (simp [errW_none, errW_some] <;> rfl) | (simp [*, errW_none, errW_some] <;> rfl), by repeat (first | (with_reducible first | exact HB.out | apply below_alloc | apply pw_below_drewN | apply below_drew1 | refine below_set ?_ GE133.out) | exact HB.out)⟩

end Go.Proofs.Ythimbpoeoegehaa.Pr
