-- printed by a program of this session's (wip/mp.sh), out of the translation; the texts of its folder 'given' are typed by hand
-- shortened (wip/short.py)
import Derived.Test.YtjcgmjhcaaaieaaDoorPr0
namespace Go.Proofs.YtjcgmjhcaaaieaaDoor.Pr
open Go.RowKit Go.Proofs.YtjcgmjhcaaaieaaDoorW.PrintWords Go.Proofs.YtjcgmjhcaaaieaaDoorW.PrintLast Go.Proofs.YtjcgmjhcaaaieaaDoorW.PrintMore
attribute [local go_sem] max2_int min2_int max_two min_two max_three min_three max_four min_four   -- for this text's walks alone
attribute [local go_sem high] eqA32
set_option linter.unusedVariables false
set_option linter.unusedSimpArgs false

/-! ### pochoirref32_cut: function 20 -/
def pochoirref32_cut.f (a0 : Int) (a1 : Int) : Option (Int × Int) := some (mx (mn (wrap64 (Int.tdiv a0 256)) (wrap64 (a1 - 2))) 0, wrap64 (a0 - (wrap64 (256 * (mx (mn (wrap64 (Int.tdiv a0 256)) (wrap64 (a1 - 2))) 0)))))
set_option maxHeartbeats 8000000 in
set_option maxRecDepth 100000 in
theorem pochoirref32_cut.calls (a0 : Int) (a1 : Int) (r1 : Int) (r2 : Int) (w : World) (h : pochoirref32_cut.f a0 a1 = some (r1, r2)) :
  Calls Tryd.prog 20 #[.int .i64 a0, .int .i64 a1] w fun e w' => e = .returned (.tuple #[.int .i64 r1, .int .i64 r2]) ∧ Below w.heap.size w w' := by
 have HB := A_.mk (Below.refl w.heap.size w)
 have H : (some (mx (mn (wrap64 (Int.tdiv a0 256)) (wrap64 (a1 - 2))) 0, wrap64 (a0 - (wrap64 (256 * (mx (mn (wrap64 (Int.tdiv a0 256)) (wrap64 (a1 - 2))) 0)))))) = some (r1, r2) := h
 clear h
 obtain ⟨aa, ab⟩ : ∃ j_ : Int, (mn (wrap64 (Int.tdiv a0 256)) (wrap64 (a1 - 2))) = j_ := ⟨_, rfl⟩
 replace H : (some (mx (aa) 0, wrap64 (a0 - (wrap64 (256 * (mx (aa) 0)))))) = some (r1, r2) := by first | (rw [ab] at H; exact H) | (simp only [ab] at H ⊢; exact H)
 have ag : (if (wrap64 (a1 - 2)) < (wrap64 (Int.tdiv a0 256)) then (wrap64 (a1 - 2)) else (wrap64 (Int.tdiv a0 256))) = aa := ab
 obtain ⟨af, ac⟩ : ∃ j_ : Int, (mx (aa) 0) = j_ := ⟨_, rfl⟩
 replace H : (some (af, wrap64 (a0 - (wrap64 (256 * (af)))))) = some (r1, r2) := by first | (rw [ac] at H; exact H) | (simp only [ac] at H ⊢; exact H)
 have ah : (if (aa) < 0 then 0 else (aa)) = af := ac
 simp only [Option.some.injEq, Prod.mk.injEq] at H
 obtain ⟨rfl, rfl⟩ := H
 go_enter Tryd.func20, Tryd.ntmps20
 go_wp2
 go_ret2
 exact ⟨by first | rfl | (simp [errW_none, errW_some] <;> rfl) | (simp only [← ab, ← ac]; first | rfl | (simp [errW_none, errW_some] <;> rfl)) | (simp [*, errW_none, errW_some] <;> rfl), by exact lB HB.out⟩

end Go.Proofs.YtjcgmjhcaaaieaaDoor.Pr
