-- printed by a program of this session's (wip/mp.sh), out of the translation; the texts of its folder 'given' are typed by hand
-- shortened (wip/short.py)
import Derived.Test.YtjcgmjhcaaaieaaDoorPr0
namespace Go.Proofs.YtjcgmjhcaaaieaaDoor.Pr
open Go.RowKit Go.Proofs.YtjcgmjhcaaaieaaDoorW.PrintWords Go.Proofs.YtjcgmjhcaaaieaaDoorW.PrintLast Go.Proofs.YtjcgmjhcaaaieaaDoorW.PrintMore
attribute [local go_sem] max2_int min2_int max_two min_two max_three min_three max_four min_four   -- for this text's walks alone
attribute [local go_sem high] eqA32
set_option linter.unusedVariables false
set_option linter.unusedSimpArgs false

/-! ### sample_mixed: function 19 -/
def mix (a b u : Int) : Int := wrap64 ((wrap64 (a * (wrap64 (256 - u)))) + (wrap64 (b * u)))
set_option maxHeartbeats 8000000 in
set_option maxRecDepth 100000 in
theorem mixed (a0 a1 a2 a3 b0 b1 b2 b3 u : Int) (w : World) :
  Calls Tryd.prog 19 #[.agg #[.int .i64 a0, .int .i64 a1, .int .i64 a2, .int .i64 a3], .agg #[.int .i64 b0, .int .i64 b1, .int .i64 b2, .int .i64 b3], .int .i64 u] w fun e w' => e = .returned (.agg #[.int .i64 (mix a0 b0 u), .int .i64 (mix a1 b1 u), .int .i64 (mix a2 b2 u), .int .i64 (mix a3 b3 u)]) ∧ Below w.heap.size w w' := by
 have am := Tryd.underlying32
 go_enter Tryd.func19, Tryd.ntmps19
 go_wp2
 go_loopg [8] 4 (fun kq v8 w' => (kq = 4 ∧ v8 = .int .i64 0 ∧ A_ (w'.heap[w.heap.size]? = some (.cells #[.int .i64 a0, .int .i64 a1, .int .i64 a2, .int .i64 a3] 32 (0, 0)) ∧ w'.heap[w.heap.size + 1]? = some (.cells #[.int .i64 b0, .int .i64 b1, .int .i64 b2, .int .i64 b3] 32 (0, 0)) ∧ w'.heap[w.heap.size + 1 + 1]? = some (.cells #[.int .i64 0, .int .i64 0, .int .i64 0, .int .i64 0] 32 (0, 0)) ∧ Below w.heap.size w w')) ∨ (kq = 3 ∧ v8 = .int .i64 1 ∧ A_ (w'.heap[w.heap.size]? = some (.cells #[.int .i64 (mix a0 b0 u), .int .i64 a1, .int .i64 a2, .int .i64 a3] 32 (0, 0)) ∧ w'.heap[w.heap.size + 1]? = some (.cells #[.int .i64 b0, .int .i64 b1, .int .i64 b2, .int .i64 b3] 32 (0, 0)) ∧ w'.heap[w.heap.size + 1 + 1]? = some (.cells #[.int .i64 0, .int .i64 0, .int .i64 0, .int .i64 0] 32 (0, 0)) ∧ Below w.heap.size w w')) ∨ (kq = 2 ∧ v8 = .int .i64 2 ∧ A_ (w'.heap[w.heap.size]? = some (.cells #[.int .i64 (mix a0 b0 u), .int .i64 (mix a1 b1 u), .int .i64 a2, .int .i64 a3] 32 (0, 0)) ∧ w'.heap[w.heap.size + 1]? = some (.cells #[.int .i64 b0, .int .i64 b1, .int .i64 b2, .int .i64 b3] 32 (0, 0)) ∧ w'.heap[w.heap.size + 1 + 1]? = some (.cells #[.int .i64 0, .int .i64 0, .int .i64 0, .int .i64 0] 32 (0, 0)) ∧ Below w.heap.size w w')) ∨ (kq = 1 ∧ v8 = .int .i64 3 ∧ A_ (w'.heap[w.heap.size]? = some (.cells #[.int .i64 (mix a0 b0 u), .int .i64 (mix a1 b1 u), .int .i64 (mix a2 b2 u), .int .i64 a3] 32 (0, 0)) ∧ w'.heap[w.heap.size + 1]? = some (.cells #[.int .i64 b0, .int .i64 b1, .int .i64 b2, .int .i64 b3] 32 (0, 0)) ∧ w'.heap[w.heap.size + 1 + 1]? = some (.cells #[.int .i64 0, .int .i64 0, .int .i64 0, .int .i64 0] 32 (0, 0)) ∧ Below w.heap.size w w')) ∨ (kq = 0 ∧ v8 = .int .i64 4 ∧ A_ (w'.heap[w.heap.size]? = some (.cells #[.int .i64 (mix a0 b0 u), .int .i64 (mix a1 b1 u), .int .i64 (mix a2 b2 u), .int .i64 (mix a3 b3 u)] 32 (0, 0)) ∧ w'.heap[w.heap.size + 1]? = some (.cells #[.int .i64 b0, .int .i64 b1, .int .i64 b2, .int .i64 b3] 32 (0, 0)) ∧ w'.heap[w.heap.size + 1 + 1]? = some (.cells #[.int .i64 0, .int .i64 0, .int .i64 0, .int .i64 0] 32 (0, 0)) ∧ Below w.heap.size w w')))
 case atStart =>
  refine .inl ⟨rfl, rfl, ⟨?_, ?_, ?_, ?_⟩⟩
  ·exact (Below.heap_alloc _ _ _ (by simp; try omega)).trans ((Below.heap_alloc _ _ _ (by simp; try omega)).trans (blk_new w _))
  ·exact (Below.heap_alloc _ _ _ (by simp)).trans (by have := blk_new (w.alloc (.cells #[.int .i64 a0, .int .i64 a1, .int .i64 a2, .int .i64 a3] 32 (0, 0))) (.cells #[.int .i64 b0, .int .i64 b1, .int .i64 b2, .int .i64 b3] 32 (0, 0)); simpa using this)
  ·have := blk_new ((w.alloc (.cells #[.int .i64 a0, .int .i64 a1, .int .i64 a2, .int .i64 a3] 32 (0, 0))).alloc (.cells #[.int .i64 b0, .int .i64 b1, .int .i64 b2, .int .i64 b3] 32 (0, 0))) (.cells #[.int .i64 0, .int .i64 0, .int .i64 0, .int .i64 0] 32 (0, 0))
   simpa using this
  ·exact V_ (V_ (V_ (Below.refl _ _) _) _) _
 case round =>
  rcases hrel with ⟨hk, rfl, HS⟩ | ⟨hk, rfl, HS⟩ | ⟨hk, rfl, HS⟩ | ⟨hk, rfl, HS⟩ | ⟨hk, rfl, HS⟩
  ·go_wp2
   obtain ⟨S, hS⟩ : ∃ S : World → Prop, S = fun W => W.heap[w.heap.size]? = some (.cells #[.int .i64 a0, .int .i64 a1, .int .i64 a2, .int .i64 a3] 32 (0, 0)) ∧ W.heap[w.heap.size + 1]? = some (.cells #[.int .i64 b0, .int .i64 b1, .int .i64 b2, .int .i64 b3] 32 (0, 0)) ∧ W.heap[w.heap.size + 1 + 1]? = some (.cells #[.int .i64 0, .int .i64 0, .int .i64 0, .int .i64 0] 32 (0, 0)) ∧ Below w.heap.size w W := ⟨_, rfl⟩
   have hS0 : S wr.drew := by rw [hS]; exact ⟨Y_ HS.out.1, Y_ HS.out.2.1, Y_ HS.out.2.2.1, T_ HS.out.2.2.2⟩
   have HS2 := A_.mk hS; clear hS
   refine start_ (n := 15) (S := S) (ds := [14]) #[false, false, false, false, false, false, false, false, false, false, false, false, false, false, false] (by kernel_rfl) rfl rfl hS0 (fun hHeld => ?_)
   generalize wr.drew = wd at hHeld ⊢
   refine pure_ (i := 0) (N := some 11) (v := ?_) (a' := ?_) #[true, false, false, false, false, false, false, false, false, false, false, false, false, false, false] rfl rfl (by kernel_rfl) (fun _ _ _ h => h) (Or.inl ⟨by rfl, ?_⟩) ?_ ?_
   rotate_left
   ·intro w'
    go_simp
    with_reducible rfl
   rotate_left
   ·exact pA
   refine pure_ (i := 1) (N := some 12) (v := ?_) (a' := ?_) #[true, true, false, false, false, false, false, false, false, false, false, false, false, false, false] rfl rfl (by kernel_rfl) (fun _ _ _ h => h) (Or.inl ⟨by rfl, ?_⟩) ?_ ?_
   rotate_left
   ·intro w'
    go_simp
    with_reducible rfl
   rotate_left
   ·exact pA
   refine pure_ (i := 2) (N := some 13) (v := ?_) (a' := ?_) #[true, true, true, false, false, false, false, false, false, false, false, false, false, false, false] rfl rfl (by kernel_rfl) (fun _ _ _ h => h) (Or.inl ⟨by rfl, ?_⟩) ?_ ?_
   rotate_left
   ·intro w'
    go_simp
    with_reducible rfl
   rotate_left
   ·exact pA
   refine take_ (i := 3) (N := some 14) (v := ?_) (a' := ?_) #[true, true, true, true, false, false, false, false, false, false, false, false, false, false, false] rfl rfl (by kernel_rfl) (fun _ _ _ h => h) (Or.inl ⟨by rfl, ?_⟩) hHeld ?_ ?_
   rotate_left
   ·intro w' s_
    rw [HS2.out] at s_
    have ca0 : w'.cell? ⟨w.heap.size, 0, none⟩ = some (.int .i64 a0) := (D_ s_.1 0).trans rfl
    have cb0 : w'.cell? ⟨w.heap.size + 1, 0, none⟩ = some (.int .i64 b0) := (D_ s_.2.1 0).trans rfl
    have ca1 : w'.cell? ⟨w.heap.size, 1, none⟩ = some (.int .i64 a1) := (D_ s_.1 1).trans rfl
    have cb1 : w'.cell? ⟨w.heap.size + 1, 1, none⟩ = some (.int .i64 b1) := (D_ s_.2.1 1).trans rfl
    have ca2 : w'.cell? ⟨w.heap.size, 2, none⟩ = some (.int .i64 a2) := (D_ s_.1 2).trans rfl
    have cb2 : w'.cell? ⟨w.heap.size + 1, 2, none⟩ = some (.int .i64 b2) := (D_ s_.2.1 2).trans rfl
    have ca3 : w'.cell? ⟨w.heap.size, 3, none⟩ = some (.int .i64 a3) := (D_ s_.1 3).trans rfl
    have cb3 : w'.cell? ⟨w.heap.size + 1, 3, none⟩ = some (.int .i64 b3) := (D_ s_.2.1 3).trans rfl
    go_simp
    with_reducible rfl
   rotate_left
   ·exact pA
   refine pure_ (i := 4) (N := some 15) (v := ?_) (a' := ?_) #[true, true, true, true, true, false, false, false, false, false, false, false, false, false, false] rfl rfl (by kernel_rfl) (fun _ _ _ h => h) (Or.inl ⟨by rfl, ?_⟩) ?_ ?_
   rotate_left
   ·intro w'
    go_simp
    with_reducible rfl
   rotate_left
   ·exact pA
   refine pure_ (i := 5) (N := some 16) (v := ?_) (a' := ?_) #[true, true, true, true, true, true, false, false, false, false, false, false, false, false, false] rfl rfl (by kernel_rfl) (fun _ _ _ h => h) (Or.inl ⟨by rfl, ?_⟩) ?_ ?_
   rotate_left
   ·intro w'
    go_simp
    with_reducible rfl
   rotate_left
   ·exact pA
   refine pure_ (i := 6) (N := some 17) (v := ?_) (a' := ?_) #[true, true, true, true, true, true, true, false, false, false, false, false, false, false, false] rfl rfl (by kernel_rfl) (fun _ _ _ h => h) (Or.inl ⟨by rfl, ?_⟩) ?_ ?_
   rotate_left
   ·intro w'
    go_simp
    with_reducible rfl
   rotate_left
   ·exact pA
   refine pure_ (i := 7) (N := some 18) (v := ?_) (a' := ?_) #[true, true, true, true, true, true, true, true, false, false, false, false, false, false, false] rfl rfl (by kernel_rfl) (fun _ _ _ h => h) (Or.inl ⟨by rfl, ?_⟩) ?_ ?_
   rotate_left
   ·intro w'
    go_simp
    with_reducible rfl
   rotate_left
   ·exact pA
   refine pure_ (i := 8) (N := some 19) (v := ?_) (a' := ?_) #[true, true, true, true, true, true, true, true, true, false, false, false, false, false, false] rfl rfl (by kernel_rfl) (fun _ _ _ h => h) (Or.inl ⟨by rfl, ?_⟩) ?_ ?_
   rotate_left
   ·intro w'
    go_simp
    with_reducible rfl
   rotate_left
   ·exact pA
   refine take_ (i := 9) (N := some 20) (v := ?_) (a' := ?_) #[true, true, true, true, true, true, true, true, true, true, false, false, false, false, false] rfl rfl (by kernel_rfl) (fun _ _ _ h => h) (Or.inl ⟨by rfl, ?_⟩) hHeld ?_ ?_
   rotate_left
   ·intro w' s_
    rw [HS2.out] at s_
    have ca0 : w'.cell? ⟨w.heap.size, 0, none⟩ = some (.int .i64 a0) := (D_ s_.1 0).trans rfl
    have cb0 : w'.cell? ⟨w.heap.size + 1, 0, none⟩ = some (.int .i64 b0) := (D_ s_.2.1 0).trans rfl
    have ca1 : w'.cell? ⟨w.heap.size, 1, none⟩ = some (.int .i64 a1) := (D_ s_.1 1).trans rfl
    have cb1 : w'.cell? ⟨w.heap.size + 1, 1, none⟩ = some (.int .i64 b1) := (D_ s_.2.1 1).trans rfl
    have ca2 : w'.cell? ⟨w.heap.size, 2, none⟩ = some (.int .i64 a2) := (D_ s_.1 2).trans rfl
    have cb2 : w'.cell? ⟨w.heap.size + 1, 2, none⟩ = some (.int .i64 b2) := (D_ s_.2.1 2).trans rfl
    have ca3 : w'.cell? ⟨w.heap.size, 3, none⟩ = some (.int .i64 a3) := (D_ s_.1 3).trans rfl
    have cb3 : w'.cell? ⟨w.heap.size + 1, 3, none⟩ = some (.int .i64 b3) := (D_ s_.2.1 3).trans rfl
    go_simp
    with_reducible rfl
   rotate_left
   ·exact pA
   refine pure_ (i := 10) (N := some 21) (v := ?_) (a' := ?_) #[true, true, true, true, true, true, true, true, true, true, true, false, false, false, false] rfl rfl (by kernel_rfl) (fun _ _ _ h => h) (Or.inl ⟨by rfl, ?_⟩) ?_ ?_
   rotate_left
   ·intro w'
    go_simp
    with_reducible rfl
   rotate_left
   ·exact pA
   refine pure_ (i := 11) (N := some 22) (v := ?_) (a' := ?_) #[true, true, true, true, true, true, true, true, true, true, true, true, false, false, false] rfl rfl (by kernel_rfl) (fun _ _ _ h => h) (Or.inl ⟨by rfl, ?_⟩) ?_ ?_
   rotate_left
   ·intro w'
    go_simp
    with_reducible rfl
   rotate_left
   ·exact pA
   refine pure_ (i := 12) (N := some 23) (v := ?_) (a' := ?_) #[true, true, true, true, true, true, true, true, true, true, true, true, true, false, false] rfl rfl (by kernel_rfl) (fun _ _ _ h => h) (Or.inl ⟨by rfl, ?_⟩) ?_ ?_
   rotate_left
   ·intro w'
    go_simp
    with_reducible rfl
   rotate_left
   ·exact pA
   refine pure_ (i := 13) (N := some 24) (v := ?_) (a' := ?_) #[true, true, true, true, true, true, true, true, true, true, true, true, true, true, false] rfl rfl (by kernel_rfl) (fun _ _ _ h => h) (Or.inl ⟨by rfl, ?_⟩) ?_ ?_
   rotate_left
   ·intro w'
    go_simp
    with_reducible rfl
   rotate_left
   ·exact pA
   refine last_ (i := 14) (N := none) #[true, true, true, true, true, true, true, true, true, true, true, true, true, true, true] rfl rfl (by kernel_rfl) (by decide) (fun Kc hKc => ?_)
   have hH := hHeld; rw [HS2.out] at hH
   have ca0 : wd.cell? ⟨w.heap.size, 0, none⟩ = some (.int .i64 a0) := (D_ hH.1 0).trans rfl
   have cb0 : wd.cell? ⟨w.heap.size + 1, 0, none⟩ = some (.int .i64 b0) := (D_ hH.2.1 0).trans rfl
   have ca1 : wd.cell? ⟨w.heap.size, 1, none⟩ = some (.int .i64 a1) := (D_ hH.1 1).trans rfl
   have cb1 : wd.cell? ⟨w.heap.size + 1, 1, none⟩ = some (.int .i64 b1) := (D_ hH.2.1 1).trans rfl
   have ca2 : wd.cell? ⟨w.heap.size, 2, none⟩ = some (.int .i64 a2) := (D_ hH.1 2).trans rfl
   have cb2 : wd.cell? ⟨w.heap.size + 1, 2, none⟩ = some (.int .i64 b2) := (D_ hH.2.1 2).trans rfl
   have ca3 : wd.cell? ⟨w.heap.size, 3, none⟩ = some (.int .i64 a3) := (D_ hH.1 3).trans rfl
   have cb3 : wd.cell? ⟨w.heap.size + 1, 3, none⟩ = some (.int .i64 b3) := (D_ hH.2.1 3).trans rfl
   have cf0 := B_ hH.1 0
   have cf1 := B_ hH.1 1
   have cf2 := B_ hH.1 2
   have cf3 := B_ hH.1 3
   refine skip_ (w1 := ?_) (by rfl) rfl ?_ ?_
   rotate_left
   ·go_simp
    rfl
   refine hKc.out _ _ ?_
   clear hKc Kc
   refine done_ (by kernel_rfl) ?_
   have hN : (wd.setCell ⟨w.heap.size, 0, none⟩ (.int .i64 (mix a0 b0 u))).heap[w.heap.size]? = some (.cells #[.int .i64 (mix a0 b0 u), .int .i64 a1, .int .i64 a2, .int .i64 a3] 32 (0, 0)) ∧ (wd.setCell ⟨w.heap.size, 0, none⟩ (.int .i64 (mix a0 b0 u))).heap[w.heap.size + 1]? = some (.cells #[.int .i64 b0, .int .i64 b1, .int .i64 b2, .int .i64 b3] 32 (0, 0)) ∧ (wd.setCell ⟨w.heap.size, 0, none⟩ (.int .i64 (mix a0 b0 u))).heap[w.heap.size + 1 + 1]? = some (.cells #[.int .i64 0, .int .i64 0, .int .i64 0, .int .i64 0] 32 (0, 0)) ∧ Below w.heap.size w (wd.setCell ⟨w.heap.size, 0, none⟩ (.int .i64 (mix a0 b0 u))) := ⟨L_ hH.1 0 _ rfl, J_ hH.2.1 (by show _ ≠ w.heap.size; omega) _, J_ hH.2.2.1 (by show _ ≠ w.heap.size; omega) _, S_ hH.2.2.2 (Nat.le_refl _)⟩
   clear hHeld hS0 HS2 S hH HS ca0 cb0 cf0 ca1 cb1 cf1 ca2 cb2 cf2 ca3 cb3 cf3
   change (wd.setCell ⟨w.heap.size, 0, none⟩ (.int .i64 (wrap64 ((wrap64 (a0 * (wrap64 (256 - u)))) + (wrap64 (b0 * u)))))).heap[w.heap.size]? = some (.cells #[.int .i64 (mix a0 b0 u), .int .i64 a1, .int .i64 a2, .int .i64 a3] 32 (0, 0)) ∧ (wd.setCell ⟨w.heap.size, 0, none⟩ (.int .i64 (wrap64 ((wrap64 (a0 * (wrap64 (256 - u)))) + (wrap64 (b0 * u)))))).heap[w.heap.size + 1]? = some (.cells #[.int .i64 b0, .int .i64 b1, .int .i64 b2, .int .i64 b3] 32 (0, 0)) ∧ (wd.setCell ⟨w.heap.size, 0, none⟩ (.int .i64 (wrap64 ((wrap64 (a0 * (wrap64 (256 - u)))) + (wrap64 (b0 * u)))))).heap[w.heap.size + 1 + 1]? = some (.cells #[.int .i64 0, .int .i64 0, .int .i64 0, .int .i64 0] 32 (0, 0)) ∧ Below w.heap.size w (wd.setCell ⟨w.heap.size, 0, none⟩ (.int .i64 (wrap64 ((wrap64 (a0 * (wrap64 (256 - u)))) + (wrap64 (b0 * u)))))) at hN
   generalize wd.setCell _ _ = wn at hN ⊢
   have HN := A_.mk hN; clear hN
   go_wp2
   go_roundg 3
   case measure => omega
   case rel => exact .inr (.inl ⟨rfl, rfl, HN⟩)
  ·go_wp2
   obtain ⟨S, hS⟩ : ∃ S : World → Prop, S = fun W => W.heap[w.heap.size]? = some (.cells #[.int .i64 (mix a0 b0 u), .int .i64 a1, .int .i64 a2, .int .i64 a3] 32 (0, 0)) ∧ W.heap[w.heap.size + 1]? = some (.cells #[.int .i64 b0, .int .i64 b1, .int .i64 b2, .int .i64 b3] 32 (0, 0)) ∧ W.heap[w.heap.size + 1 + 1]? = some (.cells #[.int .i64 0, .int .i64 0, .int .i64 0, .int .i64 0] 32 (0, 0)) ∧ Below w.heap.size w W := ⟨_, rfl⟩
   have hS0 : S wr.drew := by rw [hS]; exact ⟨Y_ HS.out.1, Y_ HS.out.2.1, Y_ HS.out.2.2.1, T_ HS.out.2.2.2⟩
   have HS2 := A_.mk hS; clear hS
   refine start_ (n := 15) (S := S) (ds := [14]) #[false, false, false, false, false, false, false, false, false, false, false, false, false, false, false] (by kernel_rfl) rfl rfl hS0 (fun hHeld => ?_)
   generalize wr.drew = wd at hHeld ⊢
   refine pure_ (i := 0) (N := some 11) (v := ?_) (a' := ?_) #[true, false, false, false, false, false, false, false, false, false, false, false, false, false, false] rfl rfl (by kernel_rfl) (fun _ _ _ h => h) (Or.inl ⟨by rfl, ?_⟩) ?_ ?_
   rotate_left
   ·intro w'
    go_simp
    with_reducible rfl
   rotate_left
   ·exact pA
   refine pure_ (i := 1) (N := some 12) (v := ?_) (a' := ?_) #[true, true, false, false, false, false, false, false, false, false, false, false, false, false, false] rfl rfl (by kernel_rfl) (fun _ _ _ h => h) (Or.inl ⟨by rfl, ?_⟩) ?_ ?_
   rotate_left
   ·intro w'
    go_simp
    with_reducible rfl
   rotate_left
   ·exact pA
   refine pure_ (i := 2) (N := some 13) (v := ?_) (a' := ?_) #[true, true, true, false, false, false, false, false, false, false, false, false, false, false, false] rfl rfl (by kernel_rfl) (fun _ _ _ h => h) (Or.inl ⟨by rfl, ?_⟩) ?_ ?_
   rotate_left
   ·intro w'
    go_simp
    with_reducible rfl
   rotate_left
   ·exact pA
   refine take_ (i := 3) (N := some 14) (v := ?_) (a' := ?_) #[true, true, true, true, false, false, false, false, false, false, false, false, false, false, false] rfl rfl (by kernel_rfl) (fun _ _ _ h => h) (Or.inl ⟨by rfl, ?_⟩) hHeld ?_ ?_
   rotate_left
   ·intro w' s_
    rw [HS2.out] at s_
    have ca0 : w'.cell? ⟨w.heap.size, 0, none⟩ = some (.int .i64 (mix a0 b0 u)) := (D_ s_.1 0).trans rfl
    have cb0 : w'.cell? ⟨w.heap.size + 1, 0, none⟩ = some (.int .i64 b0) := (D_ s_.2.1 0).trans rfl
    have ca1 : w'.cell? ⟨w.heap.size, 1, none⟩ = some (.int .i64 a1) := (D_ s_.1 1).trans rfl
    have cb1 : w'.cell? ⟨w.heap.size + 1, 1, none⟩ = some (.int .i64 b1) := (D_ s_.2.1 1).trans rfl
    have ca2 : w'.cell? ⟨w.heap.size, 2, none⟩ = some (.int .i64 a2) := (D_ s_.1 2).trans rfl
    have cb2 : w'.cell? ⟨w.heap.size + 1, 2, none⟩ = some (.int .i64 b2) := (D_ s_.2.1 2).trans rfl
    have ca3 : w'.cell? ⟨w.heap.size, 3, none⟩ = some (.int .i64 a3) := (D_ s_.1 3).trans rfl
    have cb3 : w'.cell? ⟨w.heap.size + 1, 3, none⟩ = some (.int .i64 b3) := (D_ s_.2.1 3).trans rfl
    go_simp
    with_reducible rfl
   rotate_left
   ·exact pA
   refine pure_ (i := 4) (N := some 15) (v := ?_) (a' := ?_) #[true, true, true, true, true, false, false, false, false, false, false, false, false, false, false] rfl rfl (by kernel_rfl) (fun _ _ _ h => h) (Or.inl ⟨by rfl, ?_⟩) ?_ ?_
   rotate_left
   ·intro w'
    go_simp
    with_reducible rfl
   rotate_left
   ·exact pA
   refine pure_ (i := 5) (N := some 16) (v := ?_) (a' := ?_) #[true, true, true, true, true, true, false, false, false, false, false, false, false, false, false] rfl rfl (by kernel_rfl) (fun _ _ _ h => h) (Or.inl ⟨by rfl, ?_⟩) ?_ ?_
   rotate_left
   ·intro w'
    go_simp
    with_reducible rfl
   rotate_left
   ·exact pA
   refine pure_ (i := 6) (N := some 17) (v := ?_) (a' := ?_) #[true, true, true, true, true, true, true, false, false, false, false, false, false, false, false] rfl rfl (by kernel_rfl) (fun _ _ _ h => h) (Or.inl ⟨by rfl, ?_⟩) ?_ ?_
   rotate_left
   ·intro w'
    go_simp
    with_reducible rfl
   rotate_left
   ·exact pA
   refine pure_ (i := 7) (N := some 18) (v := ?_) (a' := ?_) #[true, true, true, true, true, true, true, true, false, false, false, false, false, false, false] rfl rfl (by kernel_rfl) (fun _ _ _ h => h) (Or.inl ⟨by rfl, ?_⟩) ?_ ?_
   rotate_left
   ·intro w'
    go_simp
    with_reducible rfl
   rotate_left
   ·exact pA
   refine pure_ (i := 8) (N := some 19) (v := ?_) (a' := ?_) #[true, true, true, true, true, true, true, true, true, false, false, false, false, false, false] rfl rfl (by kernel_rfl) (fun _ _ _ h => h) (Or.inl ⟨by rfl, ?_⟩) ?_ ?_
   rotate_left
   ·intro w'
    go_simp
    with_reducible rfl
   rotate_left
   ·exact pA
   refine take_ (i := 9) (N := some 20) (v := ?_) (a' := ?_) #[true, true, true, true, true, true, true, true, true, true, false, false, false, false, false] rfl rfl (by kernel_rfl) (fun _ _ _ h => h) (Or.inl ⟨by rfl, ?_⟩) hHeld ?_ ?_
   rotate_left
   ·intro w' s_
    rw [HS2.out] at s_
    have ca0 : w'.cell? ⟨w.heap.size, 0, none⟩ = some (.int .i64 (mix a0 b0 u)) := (D_ s_.1 0).trans rfl
    have cb0 : w'.cell? ⟨w.heap.size + 1, 0, none⟩ = some (.int .i64 b0) := (D_ s_.2.1 0).trans rfl
    have ca1 : w'.cell? ⟨w.heap.size, 1, none⟩ = some (.int .i64 a1) := (D_ s_.1 1).trans rfl
    have cb1 : w'.cell? ⟨w.heap.size + 1, 1, none⟩ = some (.int .i64 b1) := (D_ s_.2.1 1).trans rfl
    have ca2 : w'.cell? ⟨w.heap.size, 2, none⟩ = some (.int .i64 a2) := (D_ s_.1 2).trans rfl
    have cb2 : w'.cell? ⟨w.heap.size + 1, 2, none⟩ = some (.int .i64 b2) := (D_ s_.2.1 2).trans rfl
    have ca3 : w'.cell? ⟨w.heap.size, 3, none⟩ = some (.int .i64 a3) := (D_ s_.1 3).trans rfl
    have cb3 : w'.cell? ⟨w.heap.size + 1, 3, none⟩ = some (.int .i64 b3) := (D_ s_.2.1 3).trans rfl
    go_simp
    with_reducible rfl
   rotate_left
   ·exact pA
   refine pure_ (i := 10) (N := some 21) (v := ?_) (a' := ?_) #[true, true, true, true, true, true, true, true, true, true, true, false, false, false, false] rfl rfl (by kernel_rfl) (fun _ _ _ h => h) (Or.inl ⟨by rfl, ?_⟩) ?_ ?_
   rotate_left
   ·intro w'
    go_simp
    with_reducible rfl
   rotate_left
   ·exact pA
   refine pure_ (i := 11) (N := some 22) (v := ?_) (a' := ?_) #[true, true, true, true, true, true, true, true, true, true, true, true, false, false, false] rfl rfl (by kernel_rfl) (fun _ _ _ h => h) (Or.inl ⟨by rfl, ?_⟩) ?_ ?_
   rotate_left
   ·intro w'
    go_simp
    with_reducible rfl
   rotate_left
   ·exact pA
   refine pure_ (i := 12) (N := some 23) (v := ?_) (a' := ?_) #[true, true, true, true, true, true, true, true, true, true, true, true, true, false, false] rfl rfl (by kernel_rfl) (fun _ _ _ h => h) (Or.inl ⟨by rfl, ?_⟩) ?_ ?_
   rotate_left
   ·intro w'
    go_simp
    with_reducible rfl
   rotate_left
   ·exact pA
   refine pure_ (i := 13) (N := some 24) (v := ?_) (a' := ?_) #[true, true, true, true, true, true, true, true, true, true, true, true, true, true, false] rfl rfl (by kernel_rfl) (fun _ _ _ h => h) (Or.inl ⟨by rfl, ?_⟩) ?_ ?_
   rotate_left
   ·intro w'
    go_simp
    with_reducible rfl
   rotate_left
   ·exact pA
   refine last_ (i := 14) (N := none) #[true, true, true, true, true, true, true, true, true, true, true, true, true, true, true] rfl rfl (by kernel_rfl) (by decide) (fun Kc hKc => ?_)
   have hH := hHeld; rw [HS2.out] at hH
   have ca0 : wd.cell? ⟨w.heap.size, 0, none⟩ = some (.int .i64 (mix a0 b0 u)) := (D_ hH.1 0).trans rfl
   have cb0 : wd.cell? ⟨w.heap.size + 1, 0, none⟩ = some (.int .i64 b0) := (D_ hH.2.1 0).trans rfl
   have ca1 : wd.cell? ⟨w.heap.size, 1, none⟩ = some (.int .i64 a1) := (D_ hH.1 1).trans rfl
   have cb1 : wd.cell? ⟨w.heap.size + 1, 1, none⟩ = some (.int .i64 b1) := (D_ hH.2.1 1).trans rfl
   have ca2 : wd.cell? ⟨w.heap.size, 2, none⟩ = some (.int .i64 a2) := (D_ hH.1 2).trans rfl
   have cb2 : wd.cell? ⟨w.heap.size + 1, 2, none⟩ = some (.int .i64 b2) := (D_ hH.2.1 2).trans rfl
   have ca3 : wd.cell? ⟨w.heap.size, 3, none⟩ = some (.int .i64 a3) := (D_ hH.1 3).trans rfl
   have cb3 : wd.cell? ⟨w.heap.size + 1, 3, none⟩ = some (.int .i64 b3) := (D_ hH.2.1 3).trans rfl
   have cf0 := B_ hH.1 0
   have cf1 := B_ hH.1 1
   have cf2 := B_ hH.1 2
   have cf3 := B_ hH.1 3
   refine skip_ (w1 := ?_) (by rfl) rfl ?_ ?_
   rotate_left
   ·go_simp
    rfl
   refine hKc.out _ _ ?_
   clear hKc Kc
   refine done_ (by kernel_rfl) ?_
   have hN : (wd.setCell ⟨w.heap.size, 1, none⟩ (.int .i64 (mix a1 b1 u))).heap[w.heap.size]? = some (.cells #[.int .i64 (mix a0 b0 u), .int .i64 (mix a1 b1 u), .int .i64 a2, .int .i64 a3] 32 (0, 0)) ∧ (wd.setCell ⟨w.heap.size, 1, none⟩ (.int .i64 (mix a1 b1 u))).heap[w.heap.size + 1]? = some (.cells #[.int .i64 b0, .int .i64 b1, .int .i64 b2, .int .i64 b3] 32 (0, 0)) ∧ (wd.setCell ⟨w.heap.size, 1, none⟩ (.int .i64 (mix a1 b1 u))).heap[w.heap.size + 1 + 1]? = some (.cells #[.int .i64 0, .int .i64 0, .int .i64 0, .int .i64 0] 32 (0, 0)) ∧ Below w.heap.size w (wd.setCell ⟨w.heap.size, 1, none⟩ (.int .i64 (mix a1 b1 u))) := ⟨L_ hH.1 1 _ rfl, J_ hH.2.1 (by show _ ≠ w.heap.size; omega) _, J_ hH.2.2.1 (by show _ ≠ w.heap.size; omega) _, S_ hH.2.2.2 (Nat.le_refl _)⟩
   clear hHeld hS0 HS2 S hH HS ca0 cb0 cf0 ca1 cb1 cf1 ca2 cb2 cf2 ca3 cb3 cf3
   change (wd.setCell ⟨w.heap.size, 1, none⟩ (.int .i64 (wrap64 ((wrap64 (a1 * (wrap64 (256 - u)))) + (wrap64 (b1 * u)))))).heap[w.heap.size]? = some (.cells #[.int .i64 (mix a0 b0 u), .int .i64 (mix a1 b1 u), .int .i64 a2, .int .i64 a3] 32 (0, 0)) ∧ (wd.setCell ⟨w.heap.size, 1, none⟩ (.int .i64 (wrap64 ((wrap64 (a1 * (wrap64 (256 - u)))) + (wrap64 (b1 * u)))))).heap[w.heap.size + 1]? = some (.cells #[.int .i64 b0, .int .i64 b1, .int .i64 b2, .int .i64 b3] 32 (0, 0)) ∧ (wd.setCell ⟨w.heap.size, 1, none⟩ (.int .i64 (wrap64 ((wrap64 (a1 * (wrap64 (256 - u)))) + (wrap64 (b1 * u)))))).heap[w.heap.size + 1 + 1]? = some (.cells #[.int .i64 0, .int .i64 0, .int .i64 0, .int .i64 0] 32 (0, 0)) ∧ Below w.heap.size w (wd.setCell ⟨w.heap.size, 1, none⟩ (.int .i64 (wrap64 ((wrap64 (a1 * (wrap64 (256 - u)))) + (wrap64 (b1 * u)))))) at hN
   generalize wd.setCell _ _ = wn at hN ⊢
   have HN := A_.mk hN; clear hN
   go_wp2
   go_roundg 2
   case measure => omega
   case rel => exact .inr (.inr (.inl ⟨rfl, rfl, HN⟩))
  ·go_wp2
   obtain ⟨S, hS⟩ : ∃ S : World → Prop, S = fun W => W.heap[w.heap.size]? = some (.cells #[.int .i64 (mix a0 b0 u), .int .i64 (mix a1 b1 u), .int .i64 a2, .int .i64 a3] 32 (0, 0)) ∧ W.heap[w.heap.size + 1]? = some (.cells #[.int .i64 b0, .int .i64 b1, .int .i64 b2, .int .i64 b3] 32 (0, 0)) ∧ W.heap[w.heap.size + 1 + 1]? = some (.cells #[.int .i64 0, .int .i64 0, .int .i64 0, .int .i64 0] 32 (0, 0)) ∧ Below w.heap.size w W := ⟨_, rfl⟩
   have hS0 : S wr.drew := by rw [hS]; exact ⟨Y_ HS.out.1, Y_ HS.out.2.1, Y_ HS.out.2.2.1, T_ HS.out.2.2.2⟩
   have HS2 := A_.mk hS; clear hS
   refine start_ (n := 15) (S := S) (ds := [14]) #[false, false, false, false, false, false, false, false, false, false, false, false, false, false, false] (by kernel_rfl) rfl rfl hS0 (fun hHeld => ?_)
   generalize wr.drew = wd at hHeld ⊢
   refine pure_ (i := 0) (N := some 11) (v := ?_) (a' := ?_) #[true, false, false, false, false, false, false, false, false, false, false, false, false, false, false] rfl rfl (by kernel_rfl) (fun _ _ _ h => h) (Or.inl ⟨by rfl, ?_⟩) ?_ ?_
   rotate_left
   ·intro w'
    go_simp
    with_reducible rfl
   rotate_left
   ·exact pA
   refine pure_ (i := 1) (N := some 12) (v := ?_) (a' := ?_) #[true, true, false, false, false, false, false, false, false, false, false, false, false, false, false] rfl rfl (by kernel_rfl) (fun _ _ _ h => h) (Or.inl ⟨by rfl, ?_⟩) ?_ ?_
   rotate_left
   ·intro w'
    go_simp
    with_reducible rfl
   rotate_left
   ·exact pA
   refine pure_ (i := 2) (N := some 13) (v := ?_) (a' := ?_) #[true, true, true, false, false, false, false, false, false, false, false, false, false, false, false] rfl rfl (by kernel_rfl) (fun _ _ _ h => h) (Or.inl ⟨by rfl, ?_⟩) ?_ ?_
   rotate_left
   ·intro w'
    go_simp
    with_reducible rfl
   rotate_left
   ·exact pA
   refine take_ (i := 3) (N := some 14) (v := ?_) (a' := ?_) #[true, true, true, true, false, false, false, false, false, false, false, false, false, false, false] rfl rfl (by kernel_rfl) (fun _ _ _ h => h) (Or.inl ⟨by rfl, ?_⟩) hHeld ?_ ?_
   rotate_left
   ·intro w' s_
    rw [HS2.out] at s_
    have ca0 : w'.cell? ⟨w.heap.size, 0, none⟩ = some (.int .i64 (mix a0 b0 u)) := (D_ s_.1 0).trans rfl
    have cb0 : w'.cell? ⟨w.heap.size + 1, 0, none⟩ = some (.int .i64 b0) := (D_ s_.2.1 0).trans rfl
    have ca1 : w'.cell? ⟨w.heap.size, 1, none⟩ = some (.int .i64 (mix a1 b1 u)) := (D_ s_.1 1).trans rfl
    have cb1 : w'.cell? ⟨w.heap.size + 1, 1, none⟩ = some (.int .i64 b1) := (D_ s_.2.1 1).trans rfl
    have ca2 : w'.cell? ⟨w.heap.size, 2, none⟩ = some (.int .i64 a2) := (D_ s_.1 2).trans rfl
    have cb2 : w'.cell? ⟨w.heap.size + 1, 2, none⟩ = some (.int .i64 b2) := (D_ s_.2.1 2).trans rfl
    have ca3 : w'.cell? ⟨w.heap.size, 3, none⟩ = some (.int .i64 a3) := (D_ s_.1 3).trans rfl
    have cb3 : w'.cell? ⟨w.heap.size + 1, 3, none⟩ = some (.int .i64 b3) := (D_ s_.2.1 3).trans rfl
    go_simp
    with_reducible rfl
   rotate_left
   ·exact pA
   refine pure_ (i := 4) (N := some 15) (v := ?_) (a' := ?_) #[true, true, true, true, true, false, false, false, false, false, false, false, false, false, false] rfl rfl (by kernel_rfl) (fun _ _ _ h => h) (Or.inl ⟨by rfl, ?_⟩) ?_ ?_
   rotate_left
   ·intro w'
    go_simp
    with_reducible rfl
   rotate_left
   ·exact pA
   refine pure_ (i := 5) (N := some 16) (v := ?_) (a' := ?_) #[true, true, true, true, true, true, false, false, false, false, false, false, false, false, false] rfl rfl (by kernel_rfl) (fun _ _ _ h => h) (Or.inl ⟨by rfl, ?_⟩) ?_ ?_
   rotate_left
   ·intro w'
    go_simp
    with_reducible rfl
   rotate_left
   ·exact pA
   refine pure_ (i := 6) (N := some 17) (v := ?_) (a' := ?_) #[true, true, true, true, true, true, true, false, false, false, false, false, false, false, false] rfl rfl (by kernel_rfl) (fun _ _ _ h => h) (Or.inl ⟨by rfl, ?_⟩) ?_ ?_
   rotate_left
   ·intro w'
    go_simp
    with_reducible rfl
   rotate_left
   ·exact pA
   refine pure_ (i := 7) (N := some 18) (v := ?_) (a' := ?_) #[true, true, true, true, true, true, true, true, false, false, false, false, false, false, false] rfl rfl (by kernel_rfl) (fun _ _ _ h => h) (Or.inl ⟨by rfl, ?_⟩) ?_ ?_
   rotate_left
   ·intro w'
    go_simp
    with_reducible rfl
   rotate_left
   ·exact pA
   refine pure_ (i := 8) (N := some 19) (v := ?_) (a' := ?_) #[true, true, true, true, true, true, true, true, true, false, false, false, false, false, false] rfl rfl (by kernel_rfl) (fun _ _ _ h => h) (Or.inl ⟨by rfl, ?_⟩) ?_ ?_
   rotate_left
   ·intro w'
    go_simp
    with_reducible rfl
   rotate_left
   ·exact pA
   refine take_ (i := 9) (N := some 20) (v := ?_) (a' := ?_) #[true, true, true, true, true, true, true, true, true, true, false, false, false, false, false] rfl rfl (by kernel_rfl) (fun _ _ _ h => h) (Or.inl ⟨by rfl, ?_⟩) hHeld ?_ ?_
   rotate_left
   ·intro w' s_
    rw [HS2.out] at s_
    have ca0 : w'.cell? ⟨w.heap.size, 0, none⟩ = some (.int .i64 (mix a0 b0 u)) := (D_ s_.1 0).trans rfl
    have cb0 : w'.cell? ⟨w.heap.size + 1, 0, none⟩ = some (.int .i64 b0) := (D_ s_.2.1 0).trans rfl
    have ca1 : w'.cell? ⟨w.heap.size, 1, none⟩ = some (.int .i64 (mix a1 b1 u)) := (D_ s_.1 1).trans rfl
    have cb1 : w'.cell? ⟨w.heap.size + 1, 1, none⟩ = some (.int .i64 b1) := (D_ s_.2.1 1).trans rfl
    have ca2 : w'.cell? ⟨w.heap.size, 2, none⟩ = some (.int .i64 a2) := (D_ s_.1 2).trans rfl
    have cb2 : w'.cell? ⟨w.heap.size + 1, 2, none⟩ = some (.int .i64 b2) := (D_ s_.2.1 2).trans rfl
    have ca3 : w'.cell? ⟨w.heap.size, 3, none⟩ = some (.int .i64 a3) := (D_ s_.1 3).trans rfl
    have cb3 : w'.cell? ⟨w.heap.size + 1, 3, none⟩ = some (.int .i64 b3) := (D_ s_.2.1 3).trans rfl
    go_simp
    with_reducible rfl
   rotate_left
   ·exact pA
   refine pure_ (i := 10) (N := some 21) (v := ?_) (a' := ?_) #[true, true, true, true, true, true, true, true, true, true, true, false, false, false, false] rfl rfl (by kernel_rfl) (fun _ _ _ h => h) (Or.inl ⟨by rfl, ?_⟩) ?_ ?_
   rotate_left
   ·intro w'
    go_simp
    with_reducible rfl
   rotate_left
   ·exact pA
   refine pure_ (i := 11) (N := some 22) (v := ?_) (a' := ?_) #[true, true, true, true, true, true, true, true, true, true, true, true, false, false, false] rfl rfl (by kernel_rfl) (fun _ _ _ h => h) (Or.inl ⟨by rfl, ?_⟩) ?_ ?_
   rotate_left
   ·intro w'
    go_simp
    with_reducible rfl
   rotate_left
   ·exact pA
   refine pure_ (i := 12) (N := some 23) (v := ?_) (a' := ?_) #[true, true, true, true, true, true, true, true, true, true, true, true, true, false, false] rfl rfl (by kernel_rfl) (fun _ _ _ h => h) (Or.inl ⟨by rfl, ?_⟩) ?_ ?_
   rotate_left
   ·intro w'
    go_simp
    with_reducible rfl
   rotate_left
   ·exact pA
   refine pure_ (i := 13) (N := some 24) (v := ?_) (a' := ?_) #[true, true, true, true, true, true, true, true, true, true, true, true, true, true, false] rfl rfl (by kernel_rfl) (fun _ _ _ h => h) (Or.inl ⟨by rfl, ?_⟩) ?_ ?_
   rotate_left
   ·intro w'
    go_simp
    with_reducible rfl
   rotate_left
   ·exact pA
   refine last_ (i := 14) (N := none) #[true, true, true, true, true, true, true, true, true, true, true, true, true, true, true] rfl rfl (by kernel_rfl) (by decide) (fun Kc hKc => ?_)
   have hH := hHeld; rw [HS2.out] at hH
   have ca0 : wd.cell? ⟨w.heap.size, 0, none⟩ = some (.int .i64 (mix a0 b0 u)) := (D_ hH.1 0).trans rfl
   have cb0 : wd.cell? ⟨w.heap.size + 1, 0, none⟩ = some (.int .i64 b0) := (D_ hH.2.1 0).trans rfl
   have ca1 : wd.cell? ⟨w.heap.size, 1, none⟩ = some (.int .i64 (mix a1 b1 u)) := (D_ hH.1 1).trans rfl
   have cb1 : wd.cell? ⟨w.heap.size + 1, 1, none⟩ = some (.int .i64 b1) := (D_ hH.2.1 1).trans rfl
   have ca2 : wd.cell? ⟨w.heap.size, 2, none⟩ = some (.int .i64 a2) := (D_ hH.1 2).trans rfl
   have cb2 : wd.cell? ⟨w.heap.size + 1, 2, none⟩ = some (.int .i64 b2) := (D_ hH.2.1 2).trans rfl
   have ca3 : wd.cell? ⟨w.heap.size, 3, none⟩ = some (.int .i64 a3) := (D_ hH.1 3).trans rfl
   have cb3 : wd.cell? ⟨w.heap.size + 1, 3, none⟩ = some (.int .i64 b3) := (D_ hH.2.1 3).trans rfl
   have cf0 := B_ hH.1 0
   have cf1 := B_ hH.1 1
   have cf2 := B_ hH.1 2
   have cf3 := B_ hH.1 3
   refine skip_ (w1 := ?_) (by rfl) rfl ?_ ?_
   rotate_left
   ·go_simp
    rfl
   refine hKc.out _ _ ?_
   clear hKc Kc
   refine done_ (by kernel_rfl) ?_
   have hN : (wd.setCell ⟨w.heap.size, 2, none⟩ (.int .i64 (mix a2 b2 u))).heap[w.heap.size]? = some (.cells #[.int .i64 (mix a0 b0 u), .int .i64 (mix a1 b1 u), .int .i64 (mix a2 b2 u), .int .i64 a3] 32 (0, 0)) ∧ (wd.setCell ⟨w.heap.size, 2, none⟩ (.int .i64 (mix a2 b2 u))).heap[w.heap.size + 1]? = some (.cells #[.int .i64 b0, .int .i64 b1, .int .i64 b2, .int .i64 b3] 32 (0, 0)) ∧ (wd.setCell ⟨w.heap.size, 2, none⟩ (.int .i64 (mix a2 b2 u))).heap[w.heap.size + 1 + 1]? = some (.cells #[.int .i64 0, .int .i64 0, .int .i64 0, .int .i64 0] 32 (0, 0)) ∧ Below w.heap.size w (wd.setCell ⟨w.heap.size, 2, none⟩ (.int .i64 (mix a2 b2 u))) := ⟨L_ hH.1 2 _ rfl, J_ hH.2.1 (by show _ ≠ w.heap.size; omega) _, J_ hH.2.2.1 (by show _ ≠ w.heap.size; omega) _, S_ hH.2.2.2 (Nat.le_refl _)⟩
   clear hHeld hS0 HS2 S hH HS ca0 cb0 cf0 ca1 cb1 cf1 ca2 cb2 cf2 ca3 cb3 cf3
   change (wd.setCell ⟨w.heap.size, 2, none⟩ (.int .i64 (wrap64 ((wrap64 (a2 * (wrap64 (256 - u)))) + (wrap64 (b2 * u)))))).heap[w.heap.size]? = some (.cells #[.int .i64 (mix a0 b0 u), .int .i64 (mix a1 b1 u), .int .i64 (mix a2 b2 u), .int .i64 a3] 32 (0, 0)) ∧ (wd.setCell ⟨w.heap.size, 2, none⟩ (.int .i64 (wrap64 ((wrap64 (a2 * (wrap64 (256 - u)))) + (wrap64 (b2 * u)))))).heap[w.heap.size + 1]? = some (.cells #[.int .i64 b0, .int .i64 b1, .int .i64 b2, .int .i64 b3] 32 (0, 0)) ∧ (wd.setCell ⟨w.heap.size, 2, none⟩ (.int .i64 (wrap64 ((wrap64 (a2 * (wrap64 (256 - u)))) + (wrap64 (b2 * u)))))).heap[w.heap.size + 1 + 1]? = some (.cells #[.int .i64 0, .int .i64 0, .int .i64 0, .int .i64 0] 32 (0, 0)) ∧ Below w.heap.size w (wd.setCell ⟨w.heap.size, 2, none⟩ (.int .i64 (wrap64 ((wrap64 (a2 * (wrap64 (256 - u)))) + (wrap64 (b2 * u)))))) at hN
   generalize wd.setCell _ _ = wn at hN ⊢
   have HN := A_.mk hN; clear hN
   go_wp2
   go_roundg 1
   case measure => omega
   case rel => exact .inr (.inr (.inr (.inl ⟨rfl, rfl, HN⟩)))
  ·go_wp2
   obtain ⟨S, hS⟩ : ∃ S : World → Prop, S = fun W => W.heap[w.heap.size]? = some (.cells #[.int .i64 (mix a0 b0 u), .int .i64 (mix a1 b1 u), .int .i64 (mix a2 b2 u), .int .i64 a3] 32 (0, 0)) ∧ W.heap[w.heap.size + 1]? = some (.cells #[.int .i64 b0, .int .i64 b1, .int .i64 b2, .int .i64 b3] 32 (0, 0)) ∧ W.heap[w.heap.size + 1 + 1]? = some (.cells #[.int .i64 0, .int .i64 0, .int .i64 0, .int .i64 0] 32 (0, 0)) ∧ Below w.heap.size w W := ⟨_, rfl⟩
   have hS0 : S wr.drew := by rw [hS]; exact ⟨Y_ HS.out.1, Y_ HS.out.2.1, Y_ HS.out.2.2.1, T_ HS.out.2.2.2⟩
   have HS2 := A_.mk hS; clear hS
   refine start_ (n := 15) (S := S) (ds := [14]) #[false, false, false, false, false, false, false, false, false, false, false, false, false, false, false] (by kernel_rfl) rfl rfl hS0 (fun hHeld => ?_)
   generalize wr.drew = wd at hHeld ⊢
   refine pure_ (i := 0) (N := some 11) (v := ?_) (a' := ?_) #[true, false, false, false, false, false, false, false, false, false, false, false, false, false, false] rfl rfl (by kernel_rfl) (fun _ _ _ h => h) (Or.inl ⟨by rfl, ?_⟩) ?_ ?_
   rotate_left
   ·intro w'
    go_simp
    with_reducible rfl
   rotate_left
   ·exact pA
   refine pure_ (i := 1) (N := some 12) (v := ?_) (a' := ?_) #[true, true, false, false, false, false, false, false, false, false, false, false, false, false, false] rfl rfl (by kernel_rfl) (fun _ _ _ h => h) (Or.inl ⟨by rfl, ?_⟩) ?_ ?_
   rotate_left
   ·intro w'
    go_simp
    with_reducible rfl
   rotate_left
   ·exact pA
   refine pure_ (i := 2) (N := some 13) (v := ?_) (a' := ?_) #[true, true, true, false, false, false, false, false, false, false, false, false, false, false, false] rfl rfl (by kernel_rfl) (fun _ _ _ h => h) (Or.inl ⟨by rfl, ?_⟩) ?_ ?_
   rotate_left
   ·intro w'
    go_simp
    with_reducible rfl
   rotate_left
   ·exact pA
   refine take_ (i := 3) (N := some 14) (v := ?_) (a' := ?_) #[true, true, true, true, false, false, false, false, false, false, false, false, false, false, false] rfl rfl (by kernel_rfl) (fun _ _ _ h => h) (Or.inl ⟨by rfl, ?_⟩) hHeld ?_ ?_
   rotate_left
   ·intro w' s_
    rw [HS2.out] at s_
    have ca0 : w'.cell? ⟨w.heap.size, 0, none⟩ = some (.int .i64 (mix a0 b0 u)) := (D_ s_.1 0).trans rfl
    have cb0 : w'.cell? ⟨w.heap.size + 1, 0, none⟩ = some (.int .i64 b0) := (D_ s_.2.1 0).trans rfl
    have ca1 : w'.cell? ⟨w.heap.size, 1, none⟩ = some (.int .i64 (mix a1 b1 u)) := (D_ s_.1 1).trans rfl
    have cb1 : w'.cell? ⟨w.heap.size + 1, 1, none⟩ = some (.int .i64 b1) := (D_ s_.2.1 1).trans rfl
    have ca2 : w'.cell? ⟨w.heap.size, 2, none⟩ = some (.int .i64 (mix a2 b2 u)) := (D_ s_.1 2).trans rfl
    have cb2 : w'.cell? ⟨w.heap.size + 1, 2, none⟩ = some (.int .i64 b2) := (D_ s_.2.1 2).trans rfl
    have ca3 : w'.cell? ⟨w.heap.size, 3, none⟩ = some (.int .i64 a3) := (D_ s_.1 3).trans rfl
    have cb3 : w'.cell? ⟨w.heap.size + 1, 3, none⟩ = some (.int .i64 b3) := (D_ s_.2.1 3).trans rfl
    go_simp
    with_reducible rfl
   rotate_left
   ·exact pA
   refine pure_ (i := 4) (N := some 15) (v := ?_) (a' := ?_) #[true, true, true, true, true, false, false, false, false, false, false, false, false, false, false] rfl rfl (by kernel_rfl) (fun _ _ _ h => h) (Or.inl ⟨by rfl, ?_⟩) ?_ ?_
   rotate_left
   ·intro w'
    go_simp
    with_reducible rfl
   rotate_left
   ·exact pA
   refine pure_ (i := 5) (N := some 16) (v := ?_) (a' := ?_) #[true, true, true, true, true, true, false, false, false, false, false, false, false, false, false] rfl rfl (by kernel_rfl) (fun _ _ _ h => h) (Or.inl ⟨by rfl, ?_⟩) ?_ ?_
   rotate_left
   ·intro w'
    go_simp
    with_reducible rfl
   rotate_left
   ·exact pA
   refine pure_ (i := 6) (N := some 17) (v := ?_) (a' := ?_) #[true, true, true, true, true, true, true, false, false, false, false, false, false, false, false] rfl rfl (by kernel_rfl) (fun _ _ _ h => h) (Or.inl ⟨by rfl, ?_⟩) ?_ ?_
   rotate_left
   ·intro w'
    go_simp
    with_reducible rfl
   rotate_left
   ·exact pA
   refine pure_ (i := 7) (N := some 18) (v := ?_) (a' := ?_) #[true, true, true, true, true, true, true, true, false, false, false, false, false, false, false] rfl rfl (by kernel_rfl) (fun _ _ _ h => h) (Or.inl ⟨by rfl, ?_⟩) ?_ ?_
   rotate_left
   ·intro w'
    go_simp
    with_reducible rfl
   rotate_left
   ·exact pA
   refine pure_ (i := 8) (N := some 19) (v := ?_) (a' := ?_) #[true, true, true, true, true, true, true, true, true, false, false, false, false, false, false] rfl rfl (by kernel_rfl) (fun _ _ _ h => h) (Or.inl ⟨by rfl, ?_⟩) ?_ ?_
   rotate_left
   ·intro w'
    go_simp
    with_reducible rfl
   rotate_left
   ·exact pA
   refine take_ (i := 9) (N := some 20) (v := ?_) (a' := ?_) #[true, true, true, true, true, true, true, true, true, true, false, false, false, false, false] rfl rfl (by kernel_rfl) (fun _ _ _ h => h) (Or.inl ⟨by rfl, ?_⟩) hHeld ?_ ?_
   rotate_left
   ·intro w' s_
    rw [HS2.out] at s_
    have ca0 : w'.cell? ⟨w.heap.size, 0, none⟩ = some (.int .i64 (mix a0 b0 u)) := (D_ s_.1 0).trans rfl
    have cb0 : w'.cell? ⟨w.heap.size + 1, 0, none⟩ = some (.int .i64 b0) := (D_ s_.2.1 0).trans rfl
    have ca1 : w'.cell? ⟨w.heap.size, 1, none⟩ = some (.int .i64 (mix a1 b1 u)) := (D_ s_.1 1).trans rfl
    have cb1 : w'.cell? ⟨w.heap.size + 1, 1, none⟩ = some (.int .i64 b1) := (D_ s_.2.1 1).trans rfl
    have ca2 : w'.cell? ⟨w.heap.size, 2, none⟩ = some (.int .i64 (mix a2 b2 u)) := (D_ s_.1 2).trans rfl
    have cb2 : w'.cell? ⟨w.heap.size + 1, 2, none⟩ = some (.int .i64 b2) := (D_ s_.2.1 2).trans rfl
    have ca3 : w'.cell? ⟨w.heap.size, 3, none⟩ = some (.int .i64 a3) := (D_ s_.1 3).trans rfl
    have cb3 : w'.cell? ⟨w.heap.size + 1, 3, none⟩ = some (.int .i64 b3) := (D_ s_.2.1 3).trans rfl
    go_simp
    with_reducible rfl
   rotate_left
   ·exact pA
   refine pure_ (i := 10) (N := some 21) (v := ?_) (a' := ?_) #[true, true, true, true, true, true, true, true, true, true, true, false, false, false, false] rfl rfl (by kernel_rfl) (fun _ _ _ h => h) (Or.inl ⟨by rfl, ?_⟩) ?_ ?_
   rotate_left
   ·intro w'
    go_simp
    with_reducible rfl
   rotate_left
   ·exact pA
   refine pure_ (i := 11) (N := some 22) (v := ?_) (a' := ?_) #[true, true, true, true, true, true, true, true, true, true, true, true, false, false, false] rfl rfl (by kernel_rfl) (fun _ _ _ h => h) (Or.inl ⟨by rfl, ?_⟩) ?_ ?_
   rotate_left
   ·intro w'
    go_simp
    with_reducible rfl
   rotate_left
   ·exact pA
   refine pure_ (i := 12) (N := some 23) (v := ?_) (a' := ?_) #[true, true, true, true, true, true, true, true, true, true, true, true, true, false, false] rfl rfl (by kernel_rfl) (fun _ _ _ h => h) (Or.inl ⟨by rfl, ?_⟩) ?_ ?_
   rotate_left
   ·intro w'
    go_simp
    with_reducible rfl
   rotate_left
   ·exact pA
   refine pure_ (i := 13) (N := some 24) (v := ?_) (a' := ?_) #[true, true, true, true, true, true, true, true, true, true, true, true, true, true, false] rfl rfl (by kernel_rfl) (fun _ _ _ h => h) (Or.inl ⟨by rfl, ?_⟩) ?_ ?_
   rotate_left
   ·intro w'
    go_simp
    with_reducible rfl
   rotate_left
   ·exact pA
   refine last_ (i := 14) (N := none) #[true, true, true, true, true, true, true, true, true, true, true, true, true, true, true] rfl rfl (by kernel_rfl) (by decide) (fun Kc hKc => ?_)
   have hH := hHeld; rw [HS2.out] at hH
   have ca0 : wd.cell? ⟨w.heap.size, 0, none⟩ = some (.int .i64 (mix a0 b0 u)) := (D_ hH.1 0).trans rfl
   have cb0 : wd.cell? ⟨w.heap.size + 1, 0, none⟩ = some (.int .i64 b0) := (D_ hH.2.1 0).trans rfl
   have ca1 : wd.cell? ⟨w.heap.size, 1, none⟩ = some (.int .i64 (mix a1 b1 u)) := (D_ hH.1 1).trans rfl
   have cb1 : wd.cell? ⟨w.heap.size + 1, 1, none⟩ = some (.int .i64 b1) := (D_ hH.2.1 1).trans rfl
   have ca2 : wd.cell? ⟨w.heap.size, 2, none⟩ = some (.int .i64 (mix a2 b2 u)) := (D_ hH.1 2).trans rfl
   have cb2 : wd.cell? ⟨w.heap.size + 1, 2, none⟩ = some (.int .i64 b2) := (D_ hH.2.1 2).trans rfl
   have ca3 : wd.cell? ⟨w.heap.size, 3, none⟩ = some (.int .i64 a3) := (D_ hH.1 3).trans rfl
   have cb3 : wd.cell? ⟨w.heap.size + 1, 3, none⟩ = some (.int .i64 b3) := (D_ hH.2.1 3).trans rfl
   have cf0 := B_ hH.1 0
   have cf1 := B_ hH.1 1
   have cf2 := B_ hH.1 2
   have cf3 := B_ hH.1 3
   refine skip_ (w1 := ?_) (by rfl) rfl ?_ ?_
   rotate_left
   ·go_simp
    rfl
   refine hKc.out _ _ ?_
   clear hKc Kc
   refine done_ (by kernel_rfl) ?_
   have hN : (wd.setCell ⟨w.heap.size, 3, none⟩ (.int .i64 (mix a3 b3 u))).heap[w.heap.size]? = some (.cells #[.int .i64 (mix a0 b0 u), .int .i64 (mix a1 b1 u), .int .i64 (mix a2 b2 u), .int .i64 (mix a3 b3 u)] 32 (0, 0)) ∧ (wd.setCell ⟨w.heap.size, 3, none⟩ (.int .i64 (mix a3 b3 u))).heap[w.heap.size + 1]? = some (.cells #[.int .i64 b0, .int .i64 b1, .int .i64 b2, .int .i64 b3] 32 (0, 0)) ∧ (wd.setCell ⟨w.heap.size, 3, none⟩ (.int .i64 (mix a3 b3 u))).heap[w.heap.size + 1 + 1]? = some (.cells #[.int .i64 0, .int .i64 0, .int .i64 0, .int .i64 0] 32 (0, 0)) ∧ Below w.heap.size w (wd.setCell ⟨w.heap.size, 3, none⟩ (.int .i64 (mix a3 b3 u))) := ⟨L_ hH.1 3 _ rfl, J_ hH.2.1 (by show _ ≠ w.heap.size; omega) _, J_ hH.2.2.1 (by show _ ≠ w.heap.size; omega) _, S_ hH.2.2.2 (Nat.le_refl _)⟩
   clear hHeld hS0 HS2 S hH HS ca0 cb0 cf0 ca1 cb1 cf1 ca2 cb2 cf2 ca3 cb3 cf3
   change (wd.setCell ⟨w.heap.size, 3, none⟩ (.int .i64 (wrap64 ((wrap64 (a3 * (wrap64 (256 - u)))) + (wrap64 (b3 * u)))))).heap[w.heap.size]? = some (.cells #[.int .i64 (mix a0 b0 u), .int .i64 (mix a1 b1 u), .int .i64 (mix a2 b2 u), .int .i64 (mix a3 b3 u)] 32 (0, 0)) ∧ (wd.setCell ⟨w.heap.size, 3, none⟩ (.int .i64 (wrap64 ((wrap64 (a3 * (wrap64 (256 - u)))) + (wrap64 (b3 * u)))))).heap[w.heap.size + 1]? = some (.cells #[.int .i64 b0, .int .i64 b1, .int .i64 b2, .int .i64 b3] 32 (0, 0)) ∧ (wd.setCell ⟨w.heap.size, 3, none⟩ (.int .i64 (wrap64 ((wrap64 (a3 * (wrap64 (256 - u)))) + (wrap64 (b3 * u)))))).heap[w.heap.size + 1 + 1]? = some (.cells #[.int .i64 0, .int .i64 0, .int .i64 0, .int .i64 0] 32 (0, 0)) ∧ Below w.heap.size w (wd.setCell ⟨w.heap.size, 3, none⟩ (.int .i64 (wrap64 ((wrap64 (a3 * (wrap64 (256 - u)))) + (wrap64 (b3 * u)))))) at hN
   generalize wd.setCell _ _ = wn at hN ⊢
   have HN := A_.mk hN; clear hN
   go_wp2
   go_roundg 0
   case measure => omega
   case rel => exact .inr (.inr (.inr (.inr (⟨rfl, rfl, HN⟩))))
  ·have hH := HS.out
   have ca0 : wr.cell? ⟨w.heap.size, 0, none⟩ = some (.int .i64 (mix a0 b0 u)) := (D_ hH.1 0).trans rfl
   have cb0 : wr.cell? ⟨w.heap.size + 1, 0, none⟩ = some (.int .i64 b0) := (D_ hH.2.1 0).trans rfl
   have ca1 : wr.cell? ⟨w.heap.size, 1, none⟩ = some (.int .i64 (mix a1 b1 u)) := (D_ hH.1 1).trans rfl
   have cb1 : wr.cell? ⟨w.heap.size + 1, 1, none⟩ = some (.int .i64 b1) := (D_ hH.2.1 1).trans rfl
   have ca2 : wr.cell? ⟨w.heap.size, 2, none⟩ = some (.int .i64 (mix a2 b2 u)) := (D_ hH.1 2).trans rfl
   have cb2 : wr.cell? ⟨w.heap.size + 1, 2, none⟩ = some (.int .i64 b2) := (D_ hH.2.1 2).trans rfl
   have ca3 : wr.cell? ⟨w.heap.size, 3, none⟩ = some (.int .i64 (mix a3 b3 u)) := (D_ hH.1 3).trans rfl
   have cb3 : wr.cell? ⟨w.heap.size + 1, 3, none⟩ = some (.int .i64 b3) := (D_ hH.2.1 3).trans rfl
   have cf0 := B_ hH.2.2.1 0
   have cf1 := B_ hH.2.2.1 1
   have cf2 := B_ hH.2.2.1 2
   have cf3 := B_ hH.2.2.1 3
   have cz0 : wr.cell? ⟨w.heap.size + 1 + 1, 0, none⟩ = some (.int .i64 0) := (D_ hH.2.2.1 0).trans rfl
   have cz1 : wr.cell? ⟨w.heap.size + 1 + 1, 1, none⟩ = some (.int .i64 0) := (D_ hH.2.2.1 1).trans rfl
   have cz2 : wr.cell? ⟨w.heap.size + 1 + 1, 2, none⟩ = some (.int .i64 0) := (D_ hH.2.2.1 2).trans rfl
   have cz3 : wr.cell? ⟨w.heap.size + 1 + 1, 3, none⟩ = some (.int .i64 0) := (D_ hH.2.2.1 3).trans rfl
   go_wp2
   refine bodyPost_ret (results_cell_row rfl _ _ (w.heap.size + 1 + 1) 32 #[.int .i64 (mix a0 b0 u), .int .i64 (mix a1 b1 u), .int .i64 (mix a2 b2 u), .int .i64 (mix a3 b3 u)] (0, 0) _ rfl (L_ (cs := #[.int .i64 (mix a0 b0 u), .int .i64 (mix a1 b1 u), .int .i64 (mix a2 b2 u), .int .i64 0]) (L_ (cs := #[.int .i64 (mix a0 b0 u), .int .i64 (mix a1 b1 u), .int .i64 0, .int .i64 0]) (L_ (cs := #[.int .i64 (mix a0 b0 u), .int .i64 0, .int .i64 0, .int .i64 0]) (L_ (cs := #[.int .i64 0, .int .i64 0, .int .i64 0, .int .i64 0]) (hH.2.2.1) 0 _ rfl) 1 _ rfl) 2 _ rfl) 3 _ rfl) Tryd.underlying32 rfl (by kernel_rfl)) rfl ?_
   exact ⟨rfl, S_ (S_ (S_ (S_ hH.2.2.2 (by omega)) (by omega)) (by omega)) (by omega)⟩
def sample_mixed.f (aa : Int) (ab : Int) (ac : Int) (ad : Int) (ae : Int) (af : Int) (ag : Int) (ah : Int) (a2 : Int) : Option (Int × Int × Int × Int) := some (mix aa ae a2, mix ab af a2, mix ac ag a2, mix ad ah a2)
theorem sample_mixed.calls (aa : Int) (ab : Int) (ac : Int) (ad : Int) (ae : Int) (af : Int) (ag : Int) (ah : Int) (a2 : Int) (r1 : Int) (r2 : Int) (r3 : Int) (r4 : Int) (w : World) (h : sample_mixed.f aa ab ac ad ae af ag ah a2 = some (r1, r2, r3, r4)) :
  Calls Tryd.prog 19 #[.agg #[.int .i64 aa, .int .i64 ab, .int .i64 ac, .int .i64 ad], .agg #[.int .i64 ae, .int .i64 af, .int .i64 ag, .int .i64 ah], .int .i64 a2] w fun e w' => e = .returned (.agg #[.int .i64 r1, .int .i64 r2, .int .i64 r3, .int .i64 r4]) ∧ Below w.heap.size w w' := by
 simp only [sample_mixed.f, Option.some.injEq, Prod.mk.injEq] at h
 obtain ⟨rfl, rfl, rfl, rfl⟩ := h
 exact mixed aa ab ac ad ae af ag ah a2 w

end Go.Proofs.YtjcgmjhcaaaieaaDoor.Pr
