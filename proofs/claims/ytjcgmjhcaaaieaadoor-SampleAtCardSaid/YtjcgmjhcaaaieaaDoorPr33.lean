-- printed by a program of this session's (wip/mp.sh), out of the translation; the texts of its folder 'given' are typed by hand
-- shortened (wip/short.py)
import Derived.Test.YtjcgmjhcaaaieaaDoorPr0
namespace Go.Proofs.YtjcgmjhcaaaieaaDoor.Pr
open Go.RowKit Go.Proofs.YtjcgmjhcaaaieaaDoorW.PrintWords Go.Proofs.YtjcgmjhcaaaieaaDoorW.PrintLast Go.Proofs.YtjcgmjhcaaaieaaDoorW.PrintMore
attribute [local go_sem] max2_int min2_int max_two min_two max_three min_three max_four min_four   -- for this text's walks alone
attribute [local go_sem high] eqA32
set_option linter.unusedVariables false
set_option linter.unusedSimpArgs false

/-! ### pochoirref12_May: function 28 -/
mutual
def pochoirref12_May.j0 : Nat → List (S84) → Int → Bool → Option (Bool)
 | 0, _, _, _ => none
 | k + 1, x0, x1, aE => if aE = true then (some false) else (pochoirref12_May.l0 k x0 x1 (-1) 0)
def pochoirref12_May.l0 : Nat → List (S84) → Int → Int → Int → Option (Bool)
 | 0, _, _, _, _ => none
 | k + 1, x0, x1, x5, x6 => if x6 < (x0.length : Int) then (if 0 ≤ x6 then (if ((rd_T84 x0 x6).f0) ≤ x5 then (some false) else (if ((rd_T84 x0 x6).f0) > 1114111 then (some false) else (if ((rd_T84 x0 x6).f1) < 1 then (some false) else (if ((rd_T84 x0 x6).f1) ≥ x1 then (some false) else (pochoirref12_May.l0 k x0 x1 ((rd_T84 x0 x6).f0) (wrap64 (x6 + 1))))))) else (none)) else (some true)
end
def pochoirref12_May.f (k : Nat) (l0 : List (S84)) (a1 : Int) : Option (Bool) := if a1 < 1 then (pochoirref12_May.j0 k l0 a1 true) else (if a1 > 1024 then (pochoirref12_May.j0 k l0 a1 true) else (pochoirref12_May.j0 k l0 a1 (decide ((l0.length : Int) > 4096))))
theorem pochoirref12_May.mono_l : ∀ k, (∀ y0 y1 y2, LeO (pochoirref12_May.j0 k y0 y1 y2) (pochoirref12_May.j0 (k + 1) y0 y1 y2)) ∧ (∀ y0 y1 y2 y3, LeO (pochoirref12_May.l0 k y0 y1 y2 y3) (pochoirref12_May.l0 (k + 1) y0 y1 y2 y3))
 | 0 => ⟨fun _ _ _ r h => by simp [pochoirref12_May.j0] at h, fun _ _ _ _ r h => by simp [pochoirref12_May.l0] at h⟩
 | k + 1 => by
  obtain ⟨ih0, ih1⟩ := pochoirref12_May.mono_l k
  refine ⟨?_, ?_⟩
  ·intro y0 y1 y2
   unfold pochoirref12_May.j0
   repeat' first
   | (with_reducible exact ih0 _ _ _)
   | (with_reducible exact ih1 _ _ _ _)
   | (with_reducible exact LeO.refl _)
   | (with_reducible exact LeO.none _)
   | (with_reducible refine LeO.ite ?_ ?_)
   | (with_reducible refine LeO.bind ?_ (fun _ => ?_))
   | exact ih0 _ _ _
   | exact ih1 _ _ _ _
   | exact LeO.none _
   | refine LeO.ite ?_ ?_
   | refine LeO.bind ?_ (fun _ => ?_)
  ·intro y0 y1 y2 y3
   unfold pochoirref12_May.l0
   repeat' first
   | (with_reducible exact ih0 _ _ _)
   | (with_reducible exact ih1 _ _ _ _)
   | (with_reducible exact LeO.refl _)
   | (with_reducible exact LeO.none _)
   | (with_reducible refine LeO.ite ?_ ?_)
   | (with_reducible refine LeO.bind ?_ (fun _ => ?_))
   | exact ih0 _ _ _
   | exact ih1 _ _ _ _
   | exact LeO.none _
   | refine LeO.ite ?_ ?_
   | refine LeO.bind ?_ (fun _ => ?_)
theorem pochoirref12_May.mono : ∀ a0 a1 k, LeO (pochoirref12_May.f k a0 a1) (pochoirref12_May.f (k + 1) a0 a1) := by
 intro a0 a1 k
 obtain ⟨ih0, ih1⟩ := pochoirref12_May.mono_l k
 unfold pochoirref12_May.f
 repeat' first
   | (with_reducible exact ih0 _ _ _)
   | (with_reducible exact ih1 _ _ _ _)
   | (with_reducible exact LeO.refl _)
   | (with_reducible exact LeO.none _)
   | (with_reducible refine LeO.ite ?_ ?_)
   | (with_reducible refine LeO.bind ?_ (fun _ => ?_))
   | exact ih0 _ _ _
   | exact ih1 _ _ _ _
   | exact LeO.none _
   | refine LeO.ite ?_ ?_
   | refine LeO.bind ?_ (fun _ => ?_)
set_option maxHeartbeats 8000000 in
set_option maxRecDepth 100000 in
theorem pochoirref12_May.calls (k : Nat) (A0 : Option Addr) (c0 : Nat) (l0 : List (S84)) (a1 : Int) (r : Bool) (w : World) (ax : Kd.C k84 w A0 l0.length l0) (ay : l0.length ≤ c0) (h : pochoirref12_May.f k l0 a1 = some r) :
  Calls Tryd.prog 28 #[.slice A0 l0.length c0, .int .i64 a1] w fun e w' => e = .returned (.bool r) ∧ Drawn0 w w' := by
 have HR0 := A_.mk ax
 have aH := A_.mk ay
 clear ax ay
 have H : (if a1 < 1 then (pochoirref12_May.j0 k l0 a1 true) else (if a1 > 1024 then (pochoirref12_May.j0 k l0 a1 true) else (pochoirref12_May.j0 k l0 a1 (decide ((l0.length : Int) > 4096))))) = some r := h
 clear h
 have ap := A_.mk H
 clear H
 go_enter Tryd.func28, Tryd.ntmps28
 go_upto_region 1 with (fail)
 go_cut [17] (fun v17 wc => ∃ (kq : Nat) (ah : Bool), v17 = .bool ah ∧ A_ (pochoirref12_May.j0 kq l0 a1 ah = some r) ∧ A_ (kq ≤ k) ∧ Drawn0 w wc)
 case first =>
  have H := ap.out
  clear ap
  by_cases c4 : a1 < 1
  ·rw [if_pos c4] at H
   have ad : decide (a1 < 1) = true := decide_eq_true c4
   clear c4
   (first | rw [ad] | (simp only [i64_w, i32_w]; rw [ad]) | skip)
   have H' := A_.mk H
   clear H
   go_wp2
   go_meet
   case rel => exact ⟨_, (true), (by first | rfl | (simp; done) | (simp [*]; done)), H', ⟨by first | omega | exact Nat.le_refl _⟩, by repeat (first | exact Drawn0.refl _ | apply Drawn0.step)⟩
  ·rw [if_neg c4] at H
   have ad : decide (a1 < 1) = false := decide_eq_false c4
   clear c4
   (first | rw [ad] | (simp only [i64_w, i32_w]; rw [ad]) | skip)
   by_cases c5 : a1 > 1024
   ·rw [if_pos c5] at H
    have am : decide (1024 < a1) = true := decide_eq_true c5
    clear c5
    have H' := A_.mk H
    clear H
    go_wp2
    go_meet
    case rel => exact ⟨_, (true), (by first | rfl | (simp; done) | (simp [*]; done)), H', ⟨by first | omega | exact Nat.le_refl _⟩, by repeat (first | exact Drawn0.refl _ | apply Drawn0.step)⟩
   ·rw [if_neg c5] at H
    have am : decide (1024 < a1) = false := decide_eq_false c5
    clear c5
    have H' := A_.mk H
    clear H
    go_wp2
    go_meet
    case rel => exact ⟨_, (decide ((l0.length : Int) > 4096)), (by first | rfl | (simp; done) | (simp [*]; done)), H', ⟨by first | omega | exact Nat.le_refl _⟩, by repeat (first | exact Drawn0.refl _ | apply Drawn0.step)⟩
 case rest =>
  clear ap
  try clear c2
  try clear p2
  try clear c4
  try clear ad
  try clear c5
  try clear am
  obtain ⟨kq, ah, rfl, HA, az, ⟨mc2, rfl⟩⟩ := hcut
  cases kq with
  | zero => exact absurd HA.out (by simp [pochoirref12_May.j0])
  | succ aq =>
   have H := HA.out
   clear HA
   simp only [pochoirref12_May.j0] at H
   by_cases c6 : ah = true
   ·subst c6
    have H1 : (some false) = some r := by rw [if_pos rfl] at H; exact H
    clear H
    have H := H1
    clear H1
    obtain rfl := Option.some.inj H
    go_wp2
    go_ret
    exact ⟨by first | rfl | (simp; done) | (simp [*]; done), by repeat (first | exact Drawn0.refl _ | apply Drawn0.step)⟩
   ·replace c6 := Bool.eq_false_iff.mpr c6
    subst c6
    have H1 : (pochoirref12_May.l0 aq l0 a1 (-1) 0) = some r := by rw [if_neg (show ¬ (false = true) by decide)] at H; exact H
    clear H
    have H := H1
    clear H1
    have H' := A_.mk H
    clear H
    go_wp2
    go_loopg [5, 6] aq (fun kq v5 v6 w' => ∃ (ae : Int) (aa : Int), v5 = .int .i64 ae ∧ v6 = .int .i64 aa ∧ A_ (pochoirref12_May.l0 kq l0 a1 ae aa = some r) ∧ A_ (kq ≤ aq) ∧ Drawn0 w w')
    case atStart => exact ⟨((-1)), (0), (by first | rfl | (simp; done) | (simp [*]; done)), (by first | rfl | (simp; done) | (simp [*]; done)), H', ⟨Nat.le_refl _⟩, by repeat (first | exact Drawn0.refl _ | apply Drawn0.step)⟩
    case round =>
     clear H'
     try clear c2
     try clear p2
     try clear c4
     try clear ad
     try clear c5
     try clear am
     try clear c6
     try clear p2
     obtain ⟨ae, aa, rfl, rfl, HA, HK2, ⟨m2, rfl⟩⟩ := hrel
     cases gk with
     | zero => exact absurd HA.out (by simp [pochoirref12_May.l0])
     | succ k2 =>
      have H := HA.out
      clear HA
      simp only [pochoirref12_May.l0] at H
      by_cases c7 : aa < (l0.length : Int)
      ·rw [if_pos c7] at H
       have aA : decide (aa < (l0.length : Int)) = true := decide_eq_true c7
       clear c7
       by_cases c8 : 0 ≤ aa
       ·rw [if_pos c8] at H
        have aG : decide (0 ≤ aa) = true := decide_eq_true c8
        clear c8
        by_cases c9 : ((rd_T84 l0 aa).f0) ≤ ae
        ·rw [if_pos c9] at H
         have aB : decide (((rd_T84 l0 aa).f0) ≤ ae) = true := decide_eq_true c9
         clear c9
         obtain rfl := Option.some.inj H
         have p263 : 0 ≤ (aa : Int) := of_decide_eq_true (by first | (with_reducible assumption) | assumption)
         have q263 : aa < (l0.length : Int) := of_decide_eq_true (by first | (with_reducible assumption) | assumption)
         obtain ⟨ad263, e263, ab, ac⟩ := at_T84 HR0.out aa p263 q263
         cases e263
         replace p263 := eq_true p263
         replace q263 := eq_true q263
         go_wp2
         go_ret
         exact ⟨by first | rfl | (simp; done) | (simp [*]; done), by repeat (first | exact Drawn0.refl _ | apply Drawn0.step)⟩
        ·rw [if_neg c9] at H
         have aB : decide (((rd_T84 l0 aa).f0) ≤ ae) = false := decide_eq_false c9
         clear c9
         by_cases c10 : ((rd_T84 l0 aa).f0) > 1114111
         ·rw [if_pos c10] at H
          have au : decide (1114111 < ((rd_T84 l0 aa).f0)) = true := decide_eq_true c10
          clear c10
          obtain rfl := Option.some.inj H
          have p263 : 0 ≤ (aa : Int) := of_decide_eq_true (by first | (with_reducible assumption) | assumption)
          have q263 : aa < (l0.length : Int) := of_decide_eq_true (by first | (with_reducible assumption) | assumption)
          obtain ⟨ad263, e263, ab, ac⟩ := at_T84 HR0.out aa p263 q263
          cases e263
          replace p263 := eq_true p263
          replace q263 := eq_true q263
          have p264 : 0 ≤ (aa : Int) := of_decide_eq_true (by first | (with_reducible assumption) | assumption)
          have q264 : aa < (l0.length : Int) := of_decide_eq_true (by first | (with_reducible assumption) | assumption)
          obtain ⟨ad264, e264, af, ag⟩ := at_T84 HR0.out aa p264 q264
          obtain rfl : ad263 = ad264 := (by injection e264)
          replace p264 := eq_true p264
          replace q264 := eq_true q264
          go_wp2
          go_ret
          exact ⟨by first | rfl | (simp; done) | (simp [*]; done), by repeat (first | exact Drawn0.refl _ | apply Drawn0.step)⟩
         ·rw [if_neg c10] at H
          have au : decide (1114111 < ((rd_T84 l0 aa).f0)) = false := decide_eq_false c10
          clear c10
          by_cases c11 : ((rd_T84 l0 aa).f1) < 1
          ·rw [if_pos c11] at H
           have av : decide (((rd_T84 l0 aa).f1) < 1) = true := decide_eq_true c11
           clear c11
           obtain rfl := Option.some.inj H
           have p263 : 0 ≤ (aa : Int) := of_decide_eq_true (by first | (with_reducible assumption) | assumption)
           have q263 : aa < (l0.length : Int) := of_decide_eq_true (by first | (with_reducible assumption) | assumption)
           obtain ⟨ad263, e263, ab, ac⟩ := at_T84 HR0.out aa p263 q263
           cases e263
           replace p263 := eq_true p263
           replace q263 := eq_true q263
           have p264 : 0 ≤ (aa : Int) := of_decide_eq_true (by first | (with_reducible assumption) | assumption)
           have q264 : aa < (l0.length : Int) := of_decide_eq_true (by first | (with_reducible assumption) | assumption)
           obtain ⟨ad264, e264, af, ag⟩ := at_T84 HR0.out aa p264 q264
           obtain rfl : ad263 = ad264 := (by injection e264)
           replace p264 := eq_true p264
           replace q264 := eq_true q264
           have p265 : 0 ≤ (aa : Int) := of_decide_eq_true (by first | (with_reducible assumption) | assumption)
           have q265 : aa < (l0.length : Int) := of_decide_eq_true (by first | (with_reducible assumption) | assumption)
           obtain ⟨ad265, e265, ai, aj⟩ := at_T84 HR0.out aa p265 q265
           obtain rfl : ad263 = ad265 := (by injection e265)
           replace p265 := eq_true p265
           replace q265 := eq_true q265
           go_wp2
           go_ret
           exact ⟨by first | rfl | (simp; done) | (simp [*]; done), by repeat (first | exact Drawn0.refl _ | apply Drawn0.step)⟩
          ·rw [if_neg c11] at H
           have av : decide (((rd_T84 l0 aa).f1) < 1) = false := decide_eq_false c11
           clear c11
           by_cases c12 : ((rd_T84 l0 aa).f1) ≥ a1
           ·rw [if_pos c12] at H
            have aw : decide (a1 ≤ ((rd_T84 l0 aa).f1)) = true := decide_eq_true c12
            clear c12
            obtain rfl := Option.some.inj H
            have p263 : 0 ≤ (aa : Int) := of_decide_eq_true (by first | (with_reducible assumption) | assumption)
            have q263 : aa < (l0.length : Int) := of_decide_eq_true (by first | (with_reducible assumption) | assumption)
            obtain ⟨ad263, e263, ab, ac⟩ := at_T84 HR0.out aa p263 q263
            cases e263
            replace p263 := eq_true p263
            replace q263 := eq_true q263
            have p264 : 0 ≤ (aa : Int) := of_decide_eq_true (by first | (with_reducible assumption) | assumption)
            have q264 : aa < (l0.length : Int) := of_decide_eq_true (by first | (with_reducible assumption) | assumption)
            obtain ⟨ad264, e264, af, ag⟩ := at_T84 HR0.out aa p264 q264
            obtain rfl : ad263 = ad264 := (by injection e264)
            replace p264 := eq_true p264
            replace q264 := eq_true q264
            have p265 : 0 ≤ (aa : Int) := of_decide_eq_true (by first | (with_reducible assumption) | assumption)
            have q265 : aa < (l0.length : Int) := of_decide_eq_true (by first | (with_reducible assumption) | assumption)
            obtain ⟨ad265, e265, ai, aj⟩ := at_T84 HR0.out aa p265 q265
            obtain rfl : ad263 = ad265 := (by injection e265)
            replace p265 := eq_true p265
            replace q265 := eq_true q265
            have p266 : 0 ≤ (aa : Int) := of_decide_eq_true (by first | (with_reducible assumption) | assumption)
            have q266 : aa < (l0.length : Int) := of_decide_eq_true (by first | (with_reducible assumption) | assumption)
            obtain ⟨ad266, e266, an, ao⟩ := at_T84 HR0.out aa p266 q266
            obtain rfl : ad263 = ad266 := (by injection e266)
            replace p266 := eq_true p266
            replace q266 := eq_true q266
            go_wp2
            go_ret
            exact ⟨by first | rfl | (simp; done) | (simp [*]; done), by repeat (first | exact Drawn0.refl _ | apply Drawn0.step)⟩
           ·rw [if_neg c12] at H
            have aw : decide (a1 ≤ ((rd_T84 l0 aa).f1)) = false := decide_eq_false c12
            clear c12
            have H' := A_.mk H
            clear H
            have p263 : 0 ≤ (aa : Int) := of_decide_eq_true (by first | (with_reducible assumption) | assumption)
            have q263 : aa < (l0.length : Int) := of_decide_eq_true (by first | (with_reducible assumption) | assumption)
            obtain ⟨ad263, e263, ab, ac⟩ := at_T84 HR0.out aa p263 q263
            cases e263
            replace p263 := eq_true p263
            replace q263 := eq_true q263
            have p264 : 0 ≤ (aa : Int) := of_decide_eq_true (by first | (with_reducible assumption) | assumption)
            have q264 : aa < (l0.length : Int) := of_decide_eq_true (by first | (with_reducible assumption) | assumption)
            obtain ⟨ad264, e264, af, ag⟩ := at_T84 HR0.out aa p264 q264
            obtain rfl : ad263 = ad264 := (by injection e264)
            replace p264 := eq_true p264
            replace q264 := eq_true q264
            have p265 : 0 ≤ (aa : Int) := of_decide_eq_true (by first | (with_reducible assumption) | assumption)
            have q265 : aa < (l0.length : Int) := of_decide_eq_true (by first | (with_reducible assumption) | assumption)
            obtain ⟨ad265, e265, ai, aj⟩ := at_T84 HR0.out aa p265 q265
            obtain rfl : ad263 = ad265 := (by injection e265)
            replace p265 := eq_true p265
            replace q265 := eq_true q265
            have p266 : 0 ≤ (aa : Int) := of_decide_eq_true (by first | (with_reducible assumption) | assumption)
            have q266 : aa < (l0.length : Int) := of_decide_eq_true (by first | (with_reducible assumption) | assumption)
            obtain ⟨ad266, e266, an, ao⟩ := at_T84 HR0.out aa p266 q266
            obtain rfl : ad263 = ad266 := (by injection e266)
            replace p266 := eq_true p266
            replace q266 := eq_true q266
            have p267 : 0 ≤ (aa : Int) := of_decide_eq_true (by first | (with_reducible assumption) | assumption)
            have q267 : aa < (l0.length : Int) := of_decide_eq_true (by first | (with_reducible assumption) | assumption)
            obtain ⟨ad267, e267, aC, aD⟩ := at_T84 HR0.out aa p267 q267
            obtain rfl : ad263 = ad267 := (by injection e267)
            replace p267 := eq_true p267
            replace q267 := eq_true q267
            go_wp2
            go_roundg k2
            case measure => have := az.out; have := HK2.out; omega
            case rel => exact ⟨((rd_T84 l0 aa).f0), (wrap64 (aa + 1)), (by first | rfl | (simp; done) | (simp [*]; done)), (by first | rfl | (simp; done) | (simp [*]; done)), H', ⟨by have := az.out; have := HK2.out; omega⟩, by repeat (first | exact Drawn0.refl _ | apply Drawn0.step)⟩
       ·rw [if_neg c8] at H
        exact absurd H (by simp)
      ·rw [if_neg c7] at H
       have aA : decide (aa < (l0.length : Int)) = false := decide_eq_false c7
       clear c7
       obtain rfl := Option.some.inj H
       go_wp2
       go_ret
       exact ⟨by first | rfl | (simp; done) | (simp [*]; done), by repeat (first | exact Drawn0.refl _ | apply Drawn0.step)⟩

end Go.Proofs.YtjcgmjhcaaaieaaDoor.Pr
