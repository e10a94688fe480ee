-- printed by a program of this session's (wip/mp.sh), out of the translation; the texts of its folder 'given' are typed by hand
-- shortened (wip/short.py)
import Derived.Test.YthnojbbfmcapnaaPr0
namespace Go.Proofs.Ythnojbbfmcapnaa.Pr
open Go.RowKit Go.Proofs.YthnojbbfmcapnaaW.PrintWords Go.Proofs.YthnojbbfmcapnaaW.PrintLast Go.Proofs.YthnojbbfmcapnaaW.PrintMore
attribute [local go_sem] max2_int min2_int max_two min_two max_three min_three max_four min_four   -- for this text's walks alone
set_option linter.unusedVariables false
set_option linter.unusedSimpArgs false

/-! ### pochoirref40_By: function 12 -/
def pochoirref40_By.l0 : Nat → List (S41) → Int → Int → Int → Option (Int)
 | 0, _, _, _, _ => none
 | k + 1, x0, x1, x2, x7 => if x7 < (x0.length : Int) then (if 0 ≤ x7 then (if ((rd_T41 x0 x7).f0) = x1 then (if ((rd_T41 x0 x7).f1) = x2 then (some ((rd_T41 x0 x7).f2)) else (pochoirref40_By.l0 k x0 x1 x2 (wrap64 (x7 + 1)))) else (pochoirref40_By.l0 k x0 x1 x2 (wrap64 (x7 + 1)))) else (none)) else (some 0)
def pochoirref40_By.f (k : Nat) (l0 : List (S41)) (a1 : Int) (a2 : Int) : Option (Int) := pochoirref40_By.l0 k l0 a1 a2 0
theorem pochoirref40_By.mono_l : ∀ k, (∀ y0 y1 y2 y3, LeO (pochoirref40_By.l0 k y0 y1 y2 y3) (pochoirref40_By.l0 (k + 1) y0 y1 y2 y3))
 | 0 => fun _ _ _ _ r h => by simp [pochoirref40_By.l0] at h
 | k + 1 => by
  have ih0 := pochoirref40_By.mono_l k
  ·intro y0 y1 y2 y3
   unfold pochoirref40_By.l0
   repeat' first
   | (with_reducible exact ih0 _ _ _ _)
   | (with_reducible exact LeO.refl _)
   | (with_reducible exact LeO.none _)
   | (with_reducible refine LeO.ite ?_ ?_)
   | (with_reducible refine LeO.bind ?_ (fun _ => ?_))
   | exact ih0 _ _ _ _
   | exact LeO.none _
   | refine LeO.ite ?_ ?_
   | refine LeO.bind ?_ (fun _ => ?_)
theorem pochoirref40_By.mono : ∀ a0 a1 a2 k, LeO (pochoirref40_By.f k a0 a1 a2) (pochoirref40_By.f (k + 1) a0 a1 a2) := by
 intro a0 a1 a2 k
 have ih0 := pochoirref40_By.mono_l k
 unfold pochoirref40_By.f
 repeat' first
   | (with_reducible exact ih0 _ _ _ _)
   | (with_reducible exact LeO.refl _)
   | (with_reducible exact LeO.none _)
   | (with_reducible refine LeO.ite ?_ ?_)
   | (with_reducible refine LeO.bind ?_ (fun _ => ?_))
   | exact ih0 _ _ _ _
   | exact LeO.none _
   | refine LeO.ite ?_ ?_
   | refine LeO.bind ?_ (fun _ => ?_)
set_option maxHeartbeats 8000000 in
set_option maxRecDepth 100000 in
theorem pochoirref40_By.calls (k : Nat) (A0 : Option Addr) (c0 : Nat) (l0 : List (S41)) (a1 : Int) (a2 : Int) (r : Int) (w : World) (aj : Kd.C k41 w A0 l0.length l0) (ak : l0.length ≤ c0) (h : pochoirref40_By.f k l0 a1 a2 = some r) :
  Calls Try.prog 12 #[.slice A0 l0.length c0, .int .i64 a1, .int .i64 a2] w fun e w' => e = .returned (.int .i64 r) ∧ Drawn0 w w' := by
 have HR0 := Aside0.mk aj
 have ay := Aside0.mk ak
 clear aj ak
 have H : (pochoirref40_By.l0 k l0 a1 a2 0) = some r := h
 clear h
 have H' := Aside0.mk H
 clear H
 go_enter Try.func12, Try.ntmps12
 go_wp2
 go_loopg [7] k (fun kq v7 w' => ∃ (aa : Int), v7 = .int .i64 aa ∧ Aside0 (pochoirref40_By.l0 kq l0 a1 a2 aa = some r) ∧ Aside0 (kq ≤ k) ∧ Drawn0 w w')
 case atStart => exact ⟨(0), (by first | rfl | (simp; done) | (simp [*]; done)), H', ⟨Nat.le_refl _⟩, by repeat (first | exact Drawn0.refl _ | apply Drawn0.step)⟩
 case round =>
  clear H'
  try clear c1
  try clear p2
  obtain ⟨aa, rfl, HA, HK1, ⟨m1, rfl⟩⟩ := hrel
  cases gk with
  | zero => exact absurd HA.out (by simp [pochoirref40_By.l0])
  | succ k1 =>
   have H := HA.out
   clear HA
   simp only [pochoirref40_By.l0] at H
   by_cases c4 : aa < (l0.length : Int)
   ·rw [if_pos c4] at H
    have an : decide (aa < (l0.length : Int)) = true := decide_eq_true c4
    clear c4
    by_cases c5 : 0 ≤ aa
    ·rw [if_pos c5] at H
     have ax : decide (0 ≤ aa) = true := decide_eq_true c5
     clear c5
     by_cases c6 : ((rd_T41 l0 aa).f0) = a1
     ·rw [if_pos c6] at H
      have ao : (((rd_T41 l0 aa).f0) == a1) = true := beq_iff_eq.mpr c6
      have ap : (((rd_T41 l0 aa).f0) != a1) = false := bne_eq_false_iff_eq.mpr c6
      clear c6
      by_cases c7 : ((rd_T41 l0 aa).f1) = a2
      ·rw [if_pos c7] at H
       have aq : (((rd_T41 l0 aa).f1) == a2) = true := beq_iff_eq.mpr c7
       have ar : (((rd_T41 l0 aa).f1) != a2) = false := bne_eq_false_iff_eq.mpr c7
       clear c7
       obtain rfl := Option.some.inj H
       have p222 : 0 ≤ (aa : Int) := of_decide_eq_true (by first | (with_reducible assumption) | assumption)
       have q222 : aa < (l0.length : Int) := of_decide_eq_true (by first | (with_reducible assumption) | assumption)
       obtain ⟨ad222, e222, ab, ac, ad⟩ := at_T41 HR0.out aa p222 q222
       cases e222
       replace p222 := eq_true p222
       replace q222 := eq_true q222
       have p223 : 0 ≤ (aa : Int) := of_decide_eq_true (by first | (with_reducible assumption) | assumption)
       have q223 : aa < (l0.length : Int) := of_decide_eq_true (by first | (with_reducible assumption) | assumption)
       obtain ⟨ad223, e223, ag, ah, ai⟩ := at_T41 HR0.out aa p223 q223
       obtain rfl : ad222 = ad223 := (by injection e223)
       replace p223 := eq_true p223
       replace q223 := eq_true q223
       have p224 : 0 ≤ (aa : Int) := of_decide_eq_true (by first | (with_reducible assumption) | assumption)
       have q224 : aa < (l0.length : Int) := of_decide_eq_true (by first | (with_reducible assumption) | assumption)
       obtain ⟨ad224, e224, au, av, aw⟩ := at_T41 HR0.out aa p224 q224
       obtain rfl : ad222 = ad224 := (by injection e224)
       replace p224 := eq_true p224
       replace q224 := eq_true q224
       go_wp2
       go_ret
       exact ⟨by first | rfl | (simp; done) | (simp [*]; done), by repeat (first | exact Drawn0.refl _ | apply Drawn0.step)⟩
      ·rw [if_neg c7] at H
       have aq : (((rd_T41 l0 aa).f1) == a2) = false := beq_eq_false_iff_ne.mpr c7
       have ar : (((rd_T41 l0 aa).f1) != a2) = true := bne_iff_ne.mpr c7
       have H' := Aside0.mk H
       clear H
       have p222 : 0 ≤ (aa : Int) := of_decide_eq_true (by first | (with_reducible assumption) | assumption)
       have q222 : aa < (l0.length : Int) := of_decide_eq_true (by first | (with_reducible assumption) | assumption)
       obtain ⟨ad222, e222, ab, ac, ad⟩ := at_T41 HR0.out aa p222 q222
       cases e222
       replace p222 := eq_true p222
       replace q222 := eq_true q222
       have p223 : 0 ≤ (aa : Int) := of_decide_eq_true (by first | (with_reducible assumption) | assumption)
       have q223 : aa < (l0.length : Int) := of_decide_eq_true (by first | (with_reducible assumption) | assumption)
       obtain ⟨ad223, e223, ag, ah, ai⟩ := at_T41 HR0.out aa p223 q223
       obtain rfl : ad222 = ad223 := (by injection e223)
       replace p223 := eq_true p223
       replace q223 := eq_true q223
       go_wp2
       go_roundg k1
       case measure => have := HK1.out; omega
       case rel => exact ⟨(wrap64 (aa + 1)), (by first | rfl | (simp; done) | (simp [*]; done)), H', ⟨by have := HK1.out; omega⟩, by repeat (first | exact Drawn0.refl _ | apply Drawn0.step)⟩
     ·rw [if_neg c6] at H
      have ao : (((rd_T41 l0 aa).f0) == a1) = false := beq_eq_false_iff_ne.mpr c6
      have ap : (((rd_T41 l0 aa).f0) != a1) = true := bne_iff_ne.mpr c6
      have H' := Aside0.mk H
      clear H
      have p222 : 0 ≤ (aa : Int) := of_decide_eq_true (by first | (with_reducible assumption) | assumption)
      have q222 : aa < (l0.length : Int) := of_decide_eq_true (by first | (with_reducible assumption) | assumption)
      obtain ⟨ad222, e222, ab, ac, ad⟩ := at_T41 HR0.out aa p222 q222
      cases e222
      replace p222 := eq_true p222
      replace q222 := eq_true q222
      go_wp2
      go_roundg k1
      case measure => have := HK1.out; omega
      case rel => exact ⟨(wrap64 (aa + 1)), (by first | rfl | (simp; done) | (simp [*]; done)), H', ⟨by have := HK1.out; omega⟩, by repeat (first | exact Drawn0.refl _ | apply Drawn0.step)⟩
    ·rw [if_neg c5] at H
     exact absurd H (by simp)
   ·rw [if_neg c4] at H
    have an : decide (aa < (l0.length : Int)) = false := decide_eq_false c4
    clear c4
    obtain rfl := Option.some.inj H
    go_wp2
    go_ret
    exact ⟨by first | rfl | (simp; done) | (simp [*]; done), by repeat (first | exact Drawn0.refl _ | apply Drawn0.step)⟩

end Go.Proofs.Ythnojbbfmcapnaa.Pr
