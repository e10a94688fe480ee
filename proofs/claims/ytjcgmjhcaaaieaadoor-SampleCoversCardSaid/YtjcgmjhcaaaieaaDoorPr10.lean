-- printed by a program of this session's (wip/mp.sh), out of the translation; the texts of its folder 'given' are typed by hand
import Derived.Test.YtjcgmjhcaaaieaaDoorPr0
namespace Go.Proofs.YtjcgmjhcaaaieaaDoor.Pr
open Go.RowKit Go.Proofs.YtjcgmjhcaaaieaaDoorW.PrintWords Go.Proofs.YtjcgmjhcaaaieaaDoorW.PrintLast Go.Proofs.YtjcgmjhcaaaieaaDoorW.PrintMore
attribute [local go_sem] max2_int min2_int max_two min_two max_three min_three max_four min_four   -- for this text's walks alone
attribute [local go_sem high] eqA32
set_option linter.unusedVariables false
set_option linter.unusedSimpArgs false

/-! ### sample_part: function 17 -/
def sample_part.f (a0 : Int) (a1 : Int) : Option (Int × Int) := some (mn (wrap64 (Int.tdiv a0 256)) (mx (wrap64 (a1 - 2)) 0), wrap64 (a0 - (wrap64 (256 * (mn (wrap64 (Int.tdiv a0 256)) (mx (wrap64 (a1 - 2)) 0))))))
set_option maxHeartbeats 8000000 in
set_option maxRecDepth 100000 in
theorem sample_part.calls (a0 : Int) (a1 : Int) (r1 : Int) (r2 : Int) (w : World) (h : sample_part.f a0 a1 = some (r1, r2)) :
    Calls Tryd.prog 17 #[.int .i64 a0, .int .i64 a1] w fun e w' => e = .returned (.tuple #[.int .i64 r1, .int .i64 r2]) ∧ Below w.heap.size w w' := by
  have HB := Aside0.mk (Below.refl w.heap.size w)
  have H : (some (mn (wrap64 (Int.tdiv a0 256)) (mx (wrap64 (a1 - 2)) 0), wrap64 (a0 - (wrap64 (256 * (mn (wrap64 (Int.tdiv a0 256)) (mx (wrap64 (a1 - 2)) 0))))))) = some (r1, r2) := h
  clear h
  obtain ⟨ji3, hji3⟩ : ∃ j_ : Int, (mx (wrap64 (a1 - 2)) 0) = j_ := ⟨_, rfl⟩
  replace H : (some (mn (wrap64 (Int.tdiv a0 256)) (ji3), wrap64 (a0 - (wrap64 (256 * (mn (wrap64 (Int.tdiv a0 256)) (ji3))))))) = some (r1, r2) := by first | (rw [hji3] at H; exact H) | (simp only [hji3] at H ⊢; exact H)
  (try (have hji3l : 0 ≤ ji3 := by (rw [← hji3]; unfold mx; (repeat' split) <;> omega)))
  (try (have hji3m : 0 ≤ ji3 := by omega))
  have hji3_ : (if (wrap64 (a1 - 2)) < 0 then 0 else (wrap64 (a1 - 2))) = ji3 := hji3
  obtain ⟨ji4, hji4⟩ : ∃ j_ : Int, (mn (wrap64 (Int.tdiv a0 256)) (ji3)) = j_ := ⟨_, rfl⟩
  replace H : (some (ji4, wrap64 (a0 - (wrap64 (256 * (ji4)))))) = some (r1, r2) := by first | (rw [hji4] at H; exact H) | (simp only [hji4] at H ⊢; exact H)
  have hji4_ : (if (ji3) < (wrap64 (Int.tdiv a0 256)) then (ji3) else (wrap64 (Int.tdiv a0 256))) = ji4 := hji4
  simp only [Option.some.injEq, Prod.mk.injEq] at H
  obtain ⟨rfl, rfl⟩ := H
  go_enter Tryd.func17, Tryd.ntmps17
  go_wp2
  go_ret2
  exact ⟨by first | rfl | (simp [errW_none, errW_some] <;> rfl) | (simp only [← hji3, ← hji4]; first | rfl | (simp [errW_none, errW_some] <;> rfl)) | (simp [*, errW_none, errW_some] <;> rfl), by repeat (first | (with_reducible first | exact HB.out | apply below_alloc | apply pw_below_drewN | apply below_drew1) | exact HB.out)⟩

end Go.Proofs.YtjcgmjhcaaaieaaDoor.Pr
