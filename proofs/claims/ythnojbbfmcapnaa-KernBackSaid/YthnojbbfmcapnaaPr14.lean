-- printed by a program of this session's (wip/mp.sh), out of the translation; the texts of its folder 'given' are typed by hand
-- shortened (wip/short.py)
import Derived.Test.YthnojbbfmcapnaaPr0
namespace Go.Proofs.Ythnojbbfmcapnaa.Pr
open Go.RowKit Go.Proofs.YthnojbbfmcapnaaW.PrintWords Go.Proofs.YthnojbbfmcapnaaW.PrintLast Go.Proofs.YthnojbbfmcapnaaW.PrintMore
attribute [local go_sem] max2_int min2_int max_two min_two max_three min_three max_four min_four   -- for this text's walks alone
set_option linter.unusedVariables false
set_option linter.unusedSimpArgs false

/-! ### kern_By: function 11 -/
def kern_By.l0 : Nat → List (S41) → Int → Int → Int → Option (Int)
 | 0, _, _, _, _ => none
 | k + 1, l, a1, a2, i => if i < (l.length : Int) then (if 0 ≤ i then (if ((rd_T41 l i).f0 == a1 && (rd_T41 l i).f1 == a2) = true then some i else kern_By.l0 k l a1 a2 (wrap64 (i + 1))) else none) else some (-1)
def kern_By.f (k : Nat) (l0 : List (S41)) (a1 : Int) (a2 : Int) : Option (Int) := (kern_By.l0 k l0 a1 a2 0).bind fun i => (if i < 0 then some 0 else if i < (l0.length : Int) then some (rd_T41 l0 i).f2 else none)
theorem kern_By.mono_l : ∀ (k : Nat) l a1 a2 i, LeO (kern_By.l0 k l a1 a2 i) (kern_By.l0 (k + 1) l a1 a2 i)
 | 0, _, _, _, _ => fun r h => by simp [kern_By.l0] at h
 | k + 1, l, a1, a2, i => by
  unfold kern_By.l0
  repeat' first
   | exact kern_By.mono_l k _ _ _ _
   | exact LeO.refl _
   | refine LeO.ite ?_ ?_
theorem kern_By.mono : ∀ l a1 a2 k, LeO (kern_By.f k l a1 a2) (kern_By.f (k + 1) l a1 a2) := fun l a1 a2 k => LeO.bind (kern_By.mono_l k l a1 a2 0) (fun _ => LeO.refl _)
theorem kern_By.pred (left right : Int) (bl br : Nat) (W : World) (x : S41) (hl : W.cell? ⟨bl, 0, none⟩ = some (.int .i64 left)) (hr : W.cell? ⟨br, 0, none⟩ = some (.int .i64 right)) :
  Calls Try.prog 28 #[.agg #[.int .i64 x.f0, .int .i64 x.f1, .int .i64 x.f2], .pointer (some ⟨bl, 0, none⟩), .pointer (some ⟨br, 0, none⟩)] W fun e w' => e = .returned (.bool (x.f0 == left && x.f1 == right)) ∧ Below W.heap.size W w' := by
 have hbl : bl < W.heap.size := World.block_lt_of_cell? W _ hl
 have hbr : br < W.heap.size := World.block_lt_of_cell? W _ hr
 have n1 : bl ≠ W.heap.size := by omega
 have n2 : br ≠ W.heap.size := by omega
 by_cases c1 : x.f0 = left
 ·have b1 : (x.f0 == left) = true := beq_iff_eq.mpr c1
  clear c1
  by_cases c2 : x.f1 = right
  ·have b2 : (x.f1 == right) = true := beq_iff_eq.mpr c2
   clear c2
   go_enter Try.func28, Try.ntmps28
   go_wp2
   go_ret
   exact ⟨by rw [b1, b2]; rfl, (Below.refl _ W).alloc (Nat.le_refl _) _⟩
  ·have b2 : (x.f1 == right) = false := beq_eq_false_iff_ne.mpr c2
   clear c2
   go_enter Try.func28, Try.ntmps28
   go_wp2
   go_ret
   exact ⟨by rw [b1, b2]; rfl, (Below.refl _ W).alloc (Nat.le_refl _) _⟩
 ·have b1 : (x.f0 == left) = false := beq_eq_false_iff_ne.mpr c1
  clear c1
  go_enter Try.func28, Try.ntmps28
  go_wp2
  go_ret
  exact ⟨by rw [b1]; rfl, (Below.refl _ W).alloc (Nat.le_refl _) _⟩
set_option maxHeartbeats 2000000 in
set_option maxRecDepth 100000 in
theorem kern_By.index (k : Nat) (A0 : Option Addr) (c0 : Nat) (l0 : List (S41)) (a1 a2 : Int) (bl br : Nat) (r : Int) (w : World) (hl : w.cell? ⟨bl, 0, none⟩ = some (.int .i64 a1)) (hr : w.cell? ⟨br, 0, none⟩ = some (.int .i64 a2)) (hC : Kd.C k41 w A0 l0.length l0) (aa : l0.length ≤ c0) (h : kern_By.l0 k l0 a1 a2 0 = some r) :
  Calls Try.prog 27 #[.slice A0 l0.length c0, .func (.func 28) #[] #[.pointer (some ⟨bl, 0, none⟩), .pointer (some ⟨br, 0, none⟩)]] w fun e w' => e = .returned (.int .i64 r) ∧ Below w.heap.size w w' := by
 have HC := Aside0.mk hC
 have HL := Aside0.mk hl
 have HR := Aside0.mk hr
 have H' := Aside0.mk h
 have HB := Aside0.mk (Below.refl w.heap.size w)
 clear hC hl hr h aa
 go_enter Try.func27, Try.ntmps27
 go_wp2
 go_loopg [5, 8] k (fun kq _ v8 w' => ∃ (i : Int), v8 = .int .i64 i ∧ Aside0 (kern_By.l0 kq l0 a1 a2 i = some r) ∧ Aside0 (kq ≤ k) ∧ Aside0 (Below w.heap.size w w'))
 case atStart => exact ⟨0, rfl, H', ⟨Nat.le_refl _⟩, ⟨by exact lB HB.out⟩⟩
 case round =>
  clear H' HB
  obtain ⟨i, rfl, H, HK, HB⟩ := hrel
  obtain ⟨kq', rfl⟩ : ∃ j, gk = j + 1 := by
   cases gk with
   | zero => exact absurd H.out (by simp [kern_By.l0])
   | succ j => exact ⟨j, rfl⟩
  replace H := H.out
  unfold kern_By.l0 at H
  by_cases c1 : i < (l0.length : Int)
  ·rw [if_pos c1] at H
   by_cases c2 : 0 ≤ i
   ·rw [if_pos c2] at H
    obtain ⟨ad, e, x0, x1, x2⟩ := at_T41 (Kd.C_below HC.out HB.out) i c2 c1
    cases e
    have hp := kern_By.pred a1 a2 bl br _ (rd_T41 l0 i) (pw_cell_below HB.out HL.out) (pw_cell_below HB.out HR.out)
    have c1b := decide_eq_true c1
    replace c2 := eq_true c2
    by_cases c3 : ((rd_T41 l0 i).f0 == a1 && (rd_T41 l0 i).f1 == a2) = true
    ·rw [if_pos c3] at H
     obtain rfl := Option.some.inj H
     clear H
     rw [c3] at hp
     have HP := Aside0.mk hp
     clear hp c3
     go_wp2_with (go_at_call 28; refine (HP.out).mono ?_; rintro e w' ⟨rfl, hb⟩)
     go_ret
     exact ⟨rfl, below_step HB.out hb⟩
    ·rw [if_neg c3] at H
     have c3' : ((rd_T41 l0 i).f0 == a1 && (rd_T41 l0 i).f1 == a2) = false := by simpa using c3
     rw [c3'] at hp
     have HP := Aside0.mk hp
     have H' := Aside0.mk H
     clear hp c3 c3' H
     go_wp2_with (go_at_call 28; refine (HP.out).mono ?_; rintro e w' ⟨rfl, hb⟩)
     go_roundg kq'
     case measure => omega
     case rel => exact ⟨_, rfl, H', ⟨by have := HK.out; omega⟩, ⟨below_step HB.out hb⟩⟩
   ·rw [if_neg c2] at H
    cases H
  ·rw [if_neg c1] at H
   obtain rfl := Option.some.inj H
   have c1b := decide_eq_false c1
   clear H
   go_wp2
   go_ret
   exact ⟨rfl, HB.out⟩
set_option maxHeartbeats 2000000 in
set_option maxRecDepth 100000 in
theorem kern_By.calls (k : Nat) (A0 : Option Addr) (c0 : Nat) (l0 : List (S41)) (a1 : Int) (a2 : Int) (r : Int) (w : World) (ab : Kd.C k41 w A0 l0.length l0) (aa : l0.length ≤ c0) (h : kern_By.f k l0 a1 a2 = some r) :
  Calls Try.prog 11 #[.slice A0 l0.length c0, .int .i64 a1, .int .i64 a2] w fun e w' => e = .returned (.int .i64 r) ∧ Below w.heap.size w w' := by
 obtain ⟨i, hi, h⟩ := Option.bind_eq_some_iff.mp h
 have HI := Aside0.mk hi
 have HC := Aside0.mk ab
 have HL := Aside0.mk aa
 have HB := Aside0.mk (Below.refl w.heap.size w)
 clear hi ab aa
 by_cases c1 : i < 0
 ·rw [if_pos c1] at h
  obtain rfl := Option.some.inj h
  have c1b := decide_eq_true c1
  clear h
  go_enter Try.func11, Try.ntmps11
  go_wp2_with (go_at_call 27; refine (kern_By.index k A0 c0 l0 a1 a2 _ _ i _ (by go_simp) (by go_simp) (Kd.C_below HC.out (by repeat (first | exact Below.refl _ _ | apply below_alloc))) HL.out HI.out).mono ?_; rintro e w' ⟨rfl, hb⟩)
  go_ret
  exact ⟨rfl, below_step (by repeat (first | exact Below.refl _ _ | apply below_alloc)) hb⟩
 ·rw [if_neg c1] at h
  by_cases c2 : i < (l0.length : Int)
  ·rw [if_pos c2] at h
   obtain rfl := Option.some.inj h
   have c1b := decide_eq_false c1
   have c2b := eq_true c2
   have c3 : 0 ≤ i := by omega
   have c3b := eq_true c3
   clear h
   go_enter Try.func11, Try.ntmps11
   go_wp2_with (go_at_call 27; refine (kern_By.index k A0 c0 l0 a1 a2 _ _ i _ (by go_simp) (by go_simp) (Kd.C_below HC.out (by repeat (first | exact Below.refl _ _ | apply below_alloc))) HL.out HI.out).mono ?_; rintro e w' ⟨rfl, hb⟩; obtain ⟨ad, e, x0, x1, x2⟩ := at_T41 (Kd.C_below HC.out (below_step (by repeat (first | exact Below.refl _ _ | apply below_alloc)) hb)) i c3 c2; cases e)
   go_ret
   exact ⟨rfl, below_step (by repeat (first | exact Below.refl _ _ | apply below_alloc)) hb⟩
  ·rw [if_neg c2] at h
   cases h

end Go.Proofs.Ythnojbbfmcapnaa.Pr
