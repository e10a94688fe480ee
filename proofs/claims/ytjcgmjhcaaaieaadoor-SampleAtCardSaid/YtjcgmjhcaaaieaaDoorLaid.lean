/- From the row's condition on the table of math/bits to what the walks ask; a world that meets it. -/
import Derived.Test.YtjcgmjhcaaaieaaDoorRows
import Derived.Test.YtjcgmjhcaaaieaaDoorTabs
import Derived.Lib.LaidTab
import Derived.Lib.LaidIn
import Derived.LaidLaws
import Derived.LaidHandle
import Derived.Stop.Joined
import Derived.JoinedOf
namespace Go.Proofs.YtjcgmjhcaaaieaaDoor.Pr
set_option linter.unusedVariables false
set_option linter.unusedSimpArgs false
open Go.RowKit
abbrev laidList : List (String × DataW Unit) := [("math/bits.deBruijn64tab", Rows.laid_math_bits_deBruijn64tab)]
theorem global0 : Tryd.prog.globalNamed "math/bits.deBruijn64tab" = some 0 := by kernel_rfl
theorem type0 : (Tryd.prog.globals[0]?).map (·.type) = some 96 := by kernel_rfl
theorem hasTab_of_laid {W : World} (h : laidMetH Tryd.prog laidList W) : HasTab W := by
  have e : (Rows.laid_math_bits_deBruijn64tab : DataW Unit) = Lib.tabData .u8 (Lib.deBruijn64tab.map fun (n : Nat) => (n : Int)) := by rfl
  have h' : laidMet Tryd.prog [("math/bits.deBruijn64tab", Lib.tabData .u8 (Lib.deBruijn64tab.map fun (n : Nat) => (n : Int)))] W := by
    rw [← e]
    exact h
  have ht := Lib.tabIs_of_head global0 type0 Tryd.underlying96 Tryd.underlying5 (by kernel_rfl) (by kernel_rfl) h'
  have hc : TabAt 0 Lib.deBruijn64tab W := by
    intro j hj
    have := ht.cell global0 j (by simpa using hj)
    rw [this]
    congr 2
    simp [List.getD, hj]
  exact ⟨World.block_lt_of_cell? W _ (hc 0 (by decide)), hc⟩
noncomputable def laidWorld (os : Os) : World :=
  let w0 := World.holding Tryd.prog os ⟨#[], #[], []⟩
  { w0 with heap := w0.heap.modify 0 fun
      | .cells _ t frozen => .cells (Lib.deBruijn64tab.map fun (z : Nat) => Value.int .u8 z).toArray t frozen
      | o => o }
theorem laidWorld_met (os : Os) (args : Array Value) : laidMetH Tryd.prog laidList ((laidWorld os).forCall (fun _ _ => 0) ⟨#[], args, []⟩).memory :=
  laidMetH_of_parts (Go.LaidIn.of_run [0] 8 (by kernel_rfl) (by kernel_rfl) (by kernel_rfl) (by kernel_rfl)).met (by kernel_rfl)
end Go.Proofs.YtjcgmjhcaaaieaaDoor.Pr
