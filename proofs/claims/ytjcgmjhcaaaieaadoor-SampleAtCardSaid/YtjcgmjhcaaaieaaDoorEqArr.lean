/- '==' of two arrays of four whole numbers, as one Bool. -/
import Derived.Test.YtjcgmjhcaaaieaaDoorWordsWGuardInvWordsMore
import Derived.Test.YtjcgmjhcaaaieaaDoorProg
import Derived.ChangeKeysEq
namespace Go.Proofs.YtjcgmjhcaaaieaaDoor.Pr
set_option linter.unusedVariables false
set_option linter.unusedSimpArgs false
open Go.RowKit Go.Proofs.YtjcgmjhcaaaieaaDoorW.PrintWords
theorem item32 (d : Nat) (w : World) (xs ys : Array Value) (i : Nat) (is : List Nat) (x y : Int) (r : Bool) (hx : xs[i]? = some (.int .i64 x)) (hy : ys[i]? = some (.int .i64 y)) (h : (Op.eqItems (d + 1) 3 1 xs ys is).run Tryd.prog w = .ok r w) :
    (Op.eqItems (d + 1) 3 1 xs ys (i :: is)).run Tryd.prog w = .ok (x == y && r) w := by
  have px : (part 3 xs (i * 1)).run Tryd.prog w = .ok (.int .i64 x) w := by simp [part, isAgg, run_underlying Tryd.underlying3, hx]
  have py : (part 3 ys (i * 1)).run Tryd.prog w = .ok (.int .i64 y) w := by simp [part, isAgg, run_underlying Tryd.underlying3, hy]
  have pe : (Op.equalIn (d + 1) 3 (.int .i64 x) (.int .i64 y)).run Tryd.prog w = .ok (x == y) w := by go_simp
  simp only [Op.eqItems, Sem.run_bind, px, py, pe, Result.andThen_ok]
  cases hb : (x == y)
  · simp
  · simpa using h
theorem eqA32 (d : Nat) (w : World) (x0 y0 : Int) (x1 y1 : Int) (x2 y2 : Int) (x3 y3 : Int) :
    (Op.equalIn (d + 2) 32 (.agg #[.int .i64 x0, .int .i64 x1, .int .i64 x2, .int .i64 x3]) (.agg #[.int .i64 y0, .int .i64 y1, .int .i64 y2, .int .i64 y3])).run Tryd.prog w = .ok (x0 == y0 && (x1 == y1 && (x2 == y2 && (x3 == y3)))) w := by
  obtain ⟨i, hi⟩ := Option.isSome_iff_exists.1 (show (Tryd.prog.info? 3).isSome = true by kernel_rfl)
  rw [run_equalIn_array w (d + 1) _ _ Tryd.underlying32 hi, show Tryd.prog.cellsOf 3 = 1 by kernel_rfl, show List.range 4 = [0, 1, 2, 3] from rfl]
  have h := item32 d w #[.int .i64 x0, .int .i64 x1, .int .i64 x2, .int .i64 x3] #[.int .i64 y0, .int .i64 y1, .int .i64 y2, .int .i64 y3] 3 [] x3 y3 true rfl rfl (by simp [Op.eqItems])
  rw [Bool.and_true] at h
  exact item32 d w _ _ 0 _ x0 y0 _ rfl rfl (item32 d w _ _ 1 _ x1 y1 _ rfl rfl (item32 d w _ _ 2 _ x2 y2 _ rfl rfl h))
end Go.Proofs.YtjcgmjhcaaaieaaDoor.Pr
