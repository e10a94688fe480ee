-- printed by a program of this session's (wip/mp.sh), out of the translation; the texts of its folder 'given' are typed by hand
-- shortened (wip/short.py)
import Derived.Test.YtjcgmjhcaaaieaaDoorPr0
namespace Go.Proofs.YtjcgmjhcaaaieaaDoor.Pr
open Go.RowKit Go.Proofs.YtjcgmjhcaaaieaaDoorW.PrintWords Go.Proofs.YtjcgmjhcaaaieaaDoorW.PrintLast Go.Proofs.YtjcgmjhcaaaieaaDoorW.PrintMore
attribute [local go_sem] max2_int min2_int max_two min_two max_three min_three max_four min_four   -- for this text's walks alone
attribute [local go_sem high] eqA32
set_option linter.unusedVariables false
set_option linter.unusedSimpArgs false

/-! ### cmap_May: function 31 -/
mutual
def cmap_May.j0 : Nat → List (S84) → Int → Bool → Option (Bool)
 | 0, _, _, _ => none
 | k + 1, x0, x1, a7 => if a7 = true then (some false) else (cmap_May.l0 k x1 (-1) x0 (x0.length : Int) 0)
def cmap_May.l0 : Nat → Int → Int → List (S84) → Int → Int → Option (Bool)
 | 0, _, _, _, _, _ => none
 | k + 1, x1, x5, ap, aA, al => if al < aA then (if 0 ≤ al then (if al < (ap.length : Int) then (if ((rd_T84 ap al).f0) ≤ x5 then (some false) else (if ((rd_T84 ap al).f0) > 1114111 then (some false) else (if ((rd_T84 ap al).f1) < 1 then (some false) else (if ((rd_T84 ap al).f1) ≥ x1 then (some false) else (cmap_May.l0 k x1 ((rd_T84 ap al).f0) ap aA (wrap64 (al + 1))))))) else (none)) else (none)) else (some true)
end
def cmap_May.f (k : Nat) (l0 : List (S84)) (a1 : Int) : Option (Bool) := if a1 < 1 then (cmap_May.j0 k l0 a1 true) else (if a1 > 1024 then (cmap_May.j0 k l0 a1 true) else (cmap_May.j0 k l0 a1 (decide ((l0.length : Int) > 4096))))
theorem cmap_May.mono_l : ∀ k, (∀ y0 y1 y2, LeO (cmap_May.j0 k y0 y1 y2) (cmap_May.j0 (k + 1) y0 y1 y2)) ∧ (∀ y0 y1 y2 y3 y4, LeO (cmap_May.l0 k y0 y1 y2 y3 y4) (cmap_May.l0 (k + 1) y0 y1 y2 y3 y4))
 | 0 => ⟨fun _ _ _ r h => by simp [cmap_May.j0] at h, fun _ _ _ _ _ r h => by simp [cmap_May.l0] at h⟩
 | k + 1 => by
  obtain ⟨ih0, ih1⟩ := cmap_May.mono_l k
  refine ⟨?_, ?_⟩
  ·intro y0 y1 y2
   unfold cmap_May.j0
   repeat' first
   | (with_reducible exact ih0 _ _ _)
   | (with_reducible exact ih1 _ _ _ _ _)
   | (with_reducible exact LeO.refl _)
   | (with_reducible exact LeO.none _)
   | (with_reducible refine LeO.ite ?_ ?_)
   | (with_reducible refine LeO.bind ?_ (fun _ => ?_))
   | exact ih0 _ _ _
   | exact ih1 _ _ _ _ _
   | exact LeO.none _
   | refine LeO.ite ?_ ?_
   | refine LeO.bind ?_ (fun _ => ?_)
  ·intro y0 y1 y2 y3 y4
   unfold cmap_May.l0
   repeat' first
   | (with_reducible exact ih0 _ _ _)
   | (with_reducible exact ih1 _ _ _ _ _)
   | (with_reducible exact LeO.refl _)
   | (with_reducible exact LeO.none _)
   | (with_reducible refine LeO.ite ?_ ?_)
   | (with_reducible refine LeO.bind ?_ (fun _ => ?_))
   | exact ih0 _ _ _
   | exact ih1 _ _ _ _ _
   | exact LeO.none _
   | refine LeO.ite ?_ ?_
   | refine LeO.bind ?_ (fun _ => ?_)
theorem cmap_May.mono : ∀ a0 a1 k, LeO (cmap_May.f k a0 a1) (cmap_May.f (k + 1) a0 a1) := by
 intro a0 a1 k
 obtain ⟨ih0, ih1⟩ := cmap_May.mono_l k
 unfold cmap_May.f
 repeat' first
   | (with_reducible exact ih0 _ _ _)
   | (with_reducible exact ih1 _ _ _ _ _)
   | (with_reducible exact LeO.refl _)
   | (with_reducible exact LeO.none _)
   | (with_reducible refine LeO.ite ?_ ?_)
   | (with_reducible refine LeO.bind ?_ (fun _ => ?_))
   | exact ih0 _ _ _
   | exact ih1 _ _ _ _ _
   | exact LeO.none _
   | refine LeO.ite ?_ ?_
   | refine LeO.bind ?_ (fun _ => ?_)
set_option maxHeartbeats 8000000 in
set_option maxRecDepth 100000 in
theorem cmap_May.calls (k : Nat) (A0 : Option Addr) (c0 : Nat) (l0 : List (S84)) (a1 : Int) (r : Bool) (w : World) (aB : Kd.C k84 w A0 l0.length l0) (aC : l0.length ≤ c0) (h : cmap_May.f k l0 a1 = some r) :
  Calls Tryd.prog 31 #[.slice A0 l0.length c0, .int .i64 a1] w fun e w' => e = .returned (.bool r) ∧ Below w.heap.size w w' := by
 have a9 := Tryd.underlying84
 have HR0 := A_.mk aB
 have bc := A_.mk aC
 clear aB aC
 have HB := A_.mk (Below.refl w.heap.size w)
 have H : (if a1 < 1 then (cmap_May.j0 k l0 a1 true) else (if a1 > 1024 then (cmap_May.j0 k l0 a1 true) else (cmap_May.j0 k l0 a1 (decide ((l0.length : Int) > 4096))))) = some r := h
 clear h
 have ar := A_.mk H
 clear H
 go_enter Tryd.func31, Tryd.ntmps31
 go_upto_region 1 with (fail)
 go_cut [18] (fun v18 wc => ∃ (kq : Nat) (an : Bool), v18 = .bool an ∧ A_ (cmap_May.j0 kq l0 a1 an = some r) ∧ A_ (kq ≤ k) ∧ A_ (Below w.heap.size w wc))
 case first =>
  have H := ar.out
  clear ar
  by_cases c4 : a1 < 1
  ·rw [if_pos c4] at H
   have ak : decide (a1 < 1) = true := decide_eq_true c4
   clear c4
   (first | rw [ak] | (simp only [i64_w, i32_w]; rw [ak]) | skip)
   have H' := A_.mk H
   clear H
   go_wp2
   go_meet
   case rel => exact ⟨_, (true), (by first | rfl | (simp; done) | (simp [*]; done)), H', ⟨by first | omega | exact Nat.le_refl _⟩, ⟨by exact lB HB.out⟩⟩
  ·rw [if_neg c4] at H
   have ak : decide (a1 < 1) = false := decide_eq_false c4
   clear c4
   (first | rw [ak] | (simp only [i64_w, i32_w]; rw [ak]) | skip)
   by_cases c5 : a1 > 1024
   ·rw [if_pos c5] at H
    have aq : decide (1024 < a1) = true := decide_eq_true c5
    clear c5
    have H' := A_.mk H
    clear H
    go_wp2
    go_meet
    case rel => exact ⟨_, (true), (by first | rfl | (simp; done) | (simp [*]; done)), H', ⟨by first | omega | exact Nat.le_refl _⟩, ⟨by exact lB HB.out⟩⟩
   ·rw [if_neg c5] at H
    have aq : decide (1024 < a1) = false := decide_eq_false c5
    clear c5
    have H' := A_.mk H
    clear H
    go_wp2
    go_meet
    case rel => exact ⟨_, (decide ((l0.length : Int) > 4096)), (by first | rfl | (simp; done) | (simp [*]; done)), H', ⟨by first | omega | exact Nat.le_refl _⟩, ⟨by exact lB HB.out⟩⟩
 case rest =>
  clear ar
  try clear p2
  try clear c3
  try clear c4
  try clear ak
  try clear c5
  try clear aq
  obtain ⟨kq, an, rfl, HA, aD, HB⟩ := hcut
  cases kq with
  | zero => exact absurd HA.out (by simp [cmap_May.j0])
  | succ au =>
   have H := HA.out
   clear HA
   simp only [cmap_May.j0] at H
   by_cases c6 : an = true
   ·subst c6
    have H1 : (some false) = some r := by rw [if_pos rfl] at H; exact H
    clear H
    have H := H1
    clear H1
    obtain rfl := Option.some.inj H
    go_wp2
    go_ret
    exact ⟨by first | rfl | (simp [errW_none, errW_some] <;> rfl) | (simp [*, errW_none, errW_some] <;> rfl), by exact lB HB.out⟩
   ·replace c6 := Bool.eq_false_iff.mpr c6
    subst c6
    have H1 : (cmap_May.l0 au a1 (-1) l0 (l0.length : Int) 0) = some r := by rw [if_neg (show ¬ (false = true) by decide)] at H; exact H
    clear H
    have H := H1
    clear H1
    have H' := A_.mk H
    clear H
    go_wp2
    go_loopg [5, 21] au (fun kq v5 v21 w' => ∃ (am : Int) (aa : Int), v5 = .int .i64 am ∧ v21 = .int .i64 aa ∧ A_ (cmap_May.l0 kq a1 am l0 (l0.length : Int) aa = some r) ∧ A_ (kq ≤ au) ∧ A_ (Below w.heap.size w w'))
    case atStart => exact ⟨((-1)), (0), (by first | rfl | (simp; done) | (simp [*]; done)), (by first | rfl | (simp; done) | (simp [*]; done)), H', ⟨Nat.le_refl _⟩, ⟨by exact lB HB.out⟩⟩
    case round =>
     clear H'
     try clear p2
     try clear c3
     try clear c4
     try clear ak
     try clear c5
     try clear aq
     try clear c6
     try clear p2
     obtain ⟨am, aa, rfl, rfl, HA, HK2, HB⟩ := hrel
     cases gk with
     | zero => exact absurd HA.out (by simp [cmap_May.l0])
     | succ k2 =>
      have H := HA.out
      clear HA
      simp only [cmap_May.l0] at H
      by_cases c7 : aa < (l0.length : Int)
      ·rw [if_pos c7] at H
       have aJ : decide (aa < (l0.length : Int)) = true := decide_eq_true c7
       clear c7
       by_cases c8 : 0 ≤ aa
       ·rw [if_pos c8] at H
        have ba : decide (0 ≤ aa) = true := decide_eq_true c8
        clear c8
        by_cases c9 : aa < (l0.length : Int)
        ·rw [if_pos c9] at H
         have bb : decide (aa < (l0.length : Int)) = true := decide_eq_true c9
         clear c9
         by_cases c10 : ((rd_T84 l0 aa).f0) ≤ am
         ·rw [if_pos c10] at H
          have aw : decide (((rd_T84 l0 aa).f0) ≤ am) = true := decide_eq_true c10
          clear c10
          obtain rfl := Option.some.inj H
          have p124 : 0 ≤ (aa : Int) := of_decide_eq_true (by first | (with_reducible assumption) | assumption)
          have q124 : aa < (l0.length : Int) := of_decide_eq_true (by first | (with_reducible assumption) | assumption)
          obtain ⟨ad124, e124, ab, ac⟩ := at_T84 HR0.out aa p124 q124
          cases e124
          replace ab := (HB.out.cell (World.block_lt_of_cell? w _ ab)).trans ab
          replace ac := (HB.out.cell (World.block_lt_of_cell? w _ ac)).trans ac
          replace p124 := eq_true p124
          replace q124 := eq_true q124
          go_wp2_with (first | ((with_reducible refine O_ (N := 7) rfl ?_); (try (refine Q_ (by rfl) ?_; dsimp only)); refine N_ ?hg (N := 7) ?hd (cs := #[.int .i64 0, .int .i64 0]) (t := 84) ?hr ?_; (case hd => rfl); (case hg => rfl); (case hr => first | (go_simp; done) | (go_simp; rfl)); intro ad hg aE hbox hb; have ag := A_.mk (E_ (by exact lB HB.out) hb); have ah := A_.mk (hbox); have ai := A_.mk ((by rw [hg]; exact (G_ (by exact lB HB.out)) : w.heap.size ≤ ad)); have aj := A_.mk ((by rw [hg]; exact (G_ (by exact lB HB.out)) : w.heap.size ≤ ad)); clear HB; have HB := ag; have ae := ah; have ao := ai; have af := aj; clear ag ah ai aj; clear hb hbox hg; have aK : aE.cell? ⟨ad, 0, none⟩ = some (.int .i64 0) := (D_ ae.out 0).trans rfl; have aL : aE.cell? ⟨ad, 1, none⟩ = some (.int .i64 0) := (D_ ae.out 1).trans rfl; have aM := B_ ae.out 0; have aN := B_ ae.out 1))
          go_ret
          exact ⟨by first | rfl | (simp [errW_none, errW_some] <;> rfl) | (simp [*, errW_none, errW_some] <;> rfl), by exact lB HB.out⟩
         ·rw [if_neg c10] at H
          have aw : decide (((rd_T84 l0 aa).f0) ≤ am) = false := decide_eq_false c10
          clear c10
          by_cases c13 : ((rd_T84 l0 aa).f0) > 1114111
          ·rw [if_pos c13] at H
           have ax : decide (1114111 < ((rd_T84 l0 aa).f0)) = true := decide_eq_true c13
           clear c13
           obtain rfl := Option.some.inj H
           have p124 : 0 ≤ (aa : Int) := of_decide_eq_true (by first | (with_reducible assumption) | assumption)
           have q124 : aa < (l0.length : Int) := of_decide_eq_true (by first | (with_reducible assumption) | assumption)
           obtain ⟨ad124, e124, ab, ac⟩ := at_T84 HR0.out aa p124 q124
           cases e124
           replace ab := (HB.out.cell (World.block_lt_of_cell? w _ ab)).trans ab
           replace ac := (HB.out.cell (World.block_lt_of_cell? w _ ac)).trans ac
           replace p124 := eq_true p124
           replace q124 := eq_true q124
           go_wp2_with (first | ((with_reducible refine O_ (N := 7) rfl ?_); (try (refine Q_ (by rfl) ?_; dsimp only)); refine N_ ?hg (N := 7) ?hd (cs := #[.int .i64 0, .int .i64 0]) (t := 84) ?hr ?_; (case hd => rfl); (case hg => rfl); (case hr => first | (go_simp; done) | (go_simp; rfl)); intro ad hg aF hbox hb; have ag := A_.mk (E_ (by exact lB HB.out) hb); have ah := A_.mk (hbox); have ai := A_.mk ((by rw [hg]; exact (G_ (by exact lB HB.out)) : w.heap.size ≤ ad)); have aj := A_.mk ((by rw [hg]; exact (G_ (by exact lB HB.out)) : w.heap.size ≤ ad)); clear HB; have HB := ag; have ae := ah; have ao := ai; have af := aj; clear ag ah ai aj; clear hb hbox hg; have aO : aF.cell? ⟨ad, 0, none⟩ = some (.int .i64 0) := (D_ ae.out 0).trans rfl; have aP : aF.cell? ⟨ad, 1, none⟩ = some (.int .i64 0) := (D_ ae.out 1).trans rfl; have aQ := B_ ae.out 0; have aR := B_ ae.out 1))
           go_ret
           exact ⟨by first | rfl | (simp [errW_none, errW_some] <;> rfl) | (simp [*, errW_none, errW_some] <;> rfl), by exact lB HB.out⟩
          ·rw [if_neg c13] at H
           have ax : decide (1114111 < ((rd_T84 l0 aa).f0)) = false := decide_eq_false c13
           clear c13
           by_cases c16 : ((rd_T84 l0 aa).f1) < 1
           ·rw [if_pos c16] at H
            have ay : decide (((rd_T84 l0 aa).f1) < 1) = true := decide_eq_true c16
            clear c16
            obtain rfl := Option.some.inj H
            have p124 : 0 ≤ (aa : Int) := of_decide_eq_true (by first | (with_reducible assumption) | assumption)
            have q124 : aa < (l0.length : Int) := of_decide_eq_true (by first | (with_reducible assumption) | assumption)
            obtain ⟨ad124, e124, ab, ac⟩ := at_T84 HR0.out aa p124 q124
            cases e124
            replace ab := (HB.out.cell (World.block_lt_of_cell? w _ ab)).trans ab
            replace ac := (HB.out.cell (World.block_lt_of_cell? w _ ac)).trans ac
            replace p124 := eq_true p124
            replace q124 := eq_true q124
            go_wp2_with (first | ((with_reducible refine O_ (N := 7) rfl ?_); (try (refine Q_ (by rfl) ?_; dsimp only)); refine N_ ?hg (N := 7) ?hd (cs := #[.int .i64 0, .int .i64 0]) (t := 84) ?hr ?_; (case hd => rfl); (case hg => rfl); (case hr => first | (go_simp; done) | (go_simp; rfl)); intro ad hg aG hbox hb; have ag := A_.mk (E_ (by exact lB HB.out) hb); have ah := A_.mk (hbox); have ai := A_.mk ((by rw [hg]; exact (G_ (by exact lB HB.out)) : w.heap.size ≤ ad)); have aj := A_.mk ((by rw [hg]; exact (G_ (by exact lB HB.out)) : w.heap.size ≤ ad)); clear HB; have HB := ag; have ae := ah; have ao := ai; have af := aj; clear ag ah ai aj; clear hb hbox hg; have aS : aG.cell? ⟨ad, 0, none⟩ = some (.int .i64 0) := (D_ ae.out 0).trans rfl; have aT : aG.cell? ⟨ad, 1, none⟩ = some (.int .i64 0) := (D_ ae.out 1).trans rfl; have aU := B_ ae.out 0; have aV := B_ ae.out 1))
            go_ret
            exact ⟨by first | rfl | (simp [errW_none, errW_some] <;> rfl) | (simp [*, errW_none, errW_some] <;> rfl), by exact lB HB.out⟩
           ·rw [if_neg c16] at H
            have ay : decide (((rd_T84 l0 aa).f1) < 1) = false := decide_eq_false c16
            clear c16
            by_cases c19 : ((rd_T84 l0 aa).f1) ≥ a1
            ·rw [if_pos c19] at H
             have az : decide (a1 ≤ ((rd_T84 l0 aa).f1)) = true := decide_eq_true c19
             clear c19
             obtain rfl := Option.some.inj H
             have p124 : 0 ≤ (aa : Int) := of_decide_eq_true (by first | (with_reducible assumption) | assumption)
             have q124 : aa < (l0.length : Int) := of_decide_eq_true (by first | (with_reducible assumption) | assumption)
             obtain ⟨ad124, e124, ab, ac⟩ := at_T84 HR0.out aa p124 q124
             cases e124
             replace ab := (HB.out.cell (World.block_lt_of_cell? w _ ab)).trans ab
             replace ac := (HB.out.cell (World.block_lt_of_cell? w _ ac)).trans ac
             replace p124 := eq_true p124
             replace q124 := eq_true q124
             go_wp2_with (first | ((with_reducible refine O_ (N := 7) rfl ?_); (try (refine Q_ (by rfl) ?_; dsimp only)); refine N_ ?hg (N := 7) ?hd (cs := #[.int .i64 0, .int .i64 0]) (t := 84) ?hr ?_; (case hd => rfl); (case hg => rfl); (case hr => first | (go_simp; done) | (go_simp; rfl)); intro ad hg aH hbox hb; have ag := A_.mk (E_ (by exact lB HB.out) hb); have ah := A_.mk (hbox); have ai := A_.mk ((by rw [hg]; exact (G_ (by exact lB HB.out)) : w.heap.size ≤ ad)); have aj := A_.mk ((by rw [hg]; exact (G_ (by exact lB HB.out)) : w.heap.size ≤ ad)); clear HB; have HB := ag; have ae := ah; have ao := ai; have af := aj; clear ag ah ai aj; clear hb hbox hg; have aW : aH.cell? ⟨ad, 0, none⟩ = some (.int .i64 0) := (D_ ae.out 0).trans rfl; have aX : aH.cell? ⟨ad, 1, none⟩ = some (.int .i64 0) := (D_ ae.out 1).trans rfl; have aY := B_ ae.out 0; have aZ := B_ ae.out 1))
             go_ret
             exact ⟨by first | rfl | (simp [errW_none, errW_some] <;> rfl) | (simp [*, errW_none, errW_some] <;> rfl), by exact lB HB.out⟩
            ·rw [if_neg c19] at H
             have az : decide (a1 ≤ ((rd_T84 l0 aa).f1)) = false := decide_eq_false c19
             clear c19
             have H' := A_.mk H
             clear H
             have p124 : 0 ≤ (aa : Int) := of_decide_eq_true (by first | (with_reducible assumption) | assumption)
             have q124 : aa < (l0.length : Int) := of_decide_eq_true (by first | (with_reducible assumption) | assumption)
             obtain ⟨ad124, e124, ab, ac⟩ := at_T84 HR0.out aa p124 q124
             cases e124
             replace ab := (HB.out.cell (World.block_lt_of_cell? w _ ab)).trans ab
             replace ac := (HB.out.cell (World.block_lt_of_cell? w _ ac)).trans ac
             replace p124 := eq_true p124
             replace q124 := eq_true q124
             go_wp2_with (first | ((with_reducible refine O_ (N := 7) rfl ?_); (try (refine Q_ (by rfl) ?_; dsimp only)); refine N_ ?hg (N := 7) ?hd (cs := #[.int .i64 0, .int .i64 0]) (t := 84) ?hr ?_; (case hd => rfl); (case hg => rfl); (case hr => first | (go_simp; done) | (go_simp; rfl)); intro ad hg aI hbox hb; have ag := A_.mk (E_ (by exact lB HB.out) hb); have ah := A_.mk (hbox); have ai := A_.mk ((by rw [hg]; exact (G_ (by exact lB HB.out)) : w.heap.size ≤ ad)); have aj := A_.mk ((by rw [hg]; exact (G_ (by exact lB HB.out)) : w.heap.size ≤ ad)); clear HB; have HB := ag; have ae := ah; have ao := ai; have af := aj; clear ag ah ai aj; clear hb hbox hg; have a2 : aI.cell? ⟨ad, 0, none⟩ = some (.int .i64 0) := (D_ ae.out 0).trans rfl; have a3 : aI.cell? ⟨ad, 1, none⟩ = some (.int .i64 0) := (D_ ae.out 1).trans rfl; have a4 := B_ ae.out 0; have a5 := B_ ae.out 1))
             go_roundg k2
             case measure => have := aD.out; have := HK2.out; omega
             case rel => exact ⟨((rd_T84 l0 aa).f0), (wrap64 (aa + 1)), (by first | rfl | (simp; done) | (simp [*]; done)), (by first | rfl | (simp; done) | (simp [*]; done)), H', ⟨by have := aD.out; have := HK2.out; omega⟩, ⟨by exact lB HB.out⟩⟩
        ·rw [if_neg c9] at H
         exact absurd H (by simp)
       ·rw [if_neg c8] at H
        exact absurd H (by simp)
      ·rw [if_neg c7] at H
       have aJ : decide (aa < (l0.length : Int)) = false := decide_eq_false c7
       clear c7
       obtain rfl := Option.some.inj H
       go_wp2
       go_ret
       exact ⟨by first | rfl | (simp [errW_none, errW_some] <;> rfl) | (simp [*, errW_none, errW_some] <;> rfl), by exact lB HB.out⟩

end Go.Proofs.YtjcgmjhcaaaieaaDoor.Pr
