/-
  No cell of these rows narrows 'for every input' (looked for: loops, veiled, ifaces, maps, wideKeys, modest, calm, conditions, laid).
  DERIVED. THE GIVEN ROWS OF THIS SEAT. 3 by the template 'for every input the law returns true; each argument reads behind the call as it read before'; 0 by the template 'total and deterministic' (their statements: YthnojbbfmcapnaaTotals.lean).
  GIVEN WITH THE SEED: the statements are not yours to turn. If you find one false, say at which input.
  Laid BY PROGRAM, IN A SANDBOX (cutbox-rows.mjs): the forced cells as the released guide's own fill.sh prints them over the translation e1e602fe80f53cba… (all of the seat's roots in one cut). By AI agents, Wed Nov 11 2026. No macro, syntax, notation, axiom, sorry.
-/
import Derived.Test.YthnojbbfmcapnaaChecked
import GoSem.Claim
import GoSem.ClaimJoined
import GoSem.ClaimMapViews
import Derived.JoinedTies
import Derived.KernelRfl
namespace Go.Proofs.Ythnojbbfmcapnaa
/- THE CELL 'sum', in the pinned program and in every row, IS THE sha256 OF THE DUMP (.gsa) THAT YthnojbbfmcapnaaProg.lean LOADS. Nothing in Lean hashes anything: it is a label: what it is worth is what the hold of that sum in a sandbox is worth. -/
noncomputable def Try.pinned : Pinned := { name := "ythnojbbfmcapnaa", sum := "e1e602fe80f53cbafafdef8f6df246864c58ea1975931f10003b1006ffa6f5bc", checked := Try.checked }
namespace Rows
def none {H : Type} : Left H := { results := [], args := [] }

/-- 'pochoirlaw40.KernBack': WHATEVER THE INPUT: true; the input reads as it did. -/
def kernBackSpec : ChangeSpec := { name := "kernBack", fn := fun _ => fun
  | [d1, d2] => { results := [.lit (.bool true)], args := [d1, d2] }
  | _ => none }
def kernBackRow : OpenClaim := { program := "ythnojbbfmcapnaa", sum := "e1e602fe80f53cbafafdef8f6df246864c58ea1975931f10003b1006ffa6f5bc", func := "pochoir/pochoirlaw40.KernBack", spec := "kernBack", inPlace := ["internal/abi.NoEscape"], unfollowed := true, recurses := true, plainKeys := false, apart := false }
def KernBackSaid : Prop := kernBackRow.holds Try.pinned (OpenSpec.ofChange kernBackSpec)

/-- ITS FALSE NEIGHBOUR: 'it returns false'. Refute it at one input. -/
def kernBackWrong : ChangeSpec := { name := "kernBack", fn := fun _ => fun
  | [d1, d2] => { results := [.lit (.bool false)], args := [d1, d2] }
  | _ => none }
def KernBackWrongFalsely : Prop := kernBackRow.holds Try.pinned (OpenSpec.ofChange kernBackWrong)

/-- 'pochoirlaw40.KernAny': WHATEVER THE INPUT: true; the input reads as it did. -/
def kernAnySpec : ChangeSpec := { name := "kernAny", fn := fun _ => fun
  | [d1, d2] => { results := [.lit (.bool true)], args := [d1, d2] }
  | _ => none }
def kernAnyRow : OpenClaim := { program := "ythnojbbfmcapnaa", sum := "e1e602fe80f53cbafafdef8f6df246864c58ea1975931f10003b1006ffa6f5bc", func := "pochoir/pochoirlaw40.KernAny", spec := "kernAny", inPlace := ["internal/abi.NoEscape"], unfollowed := true, recurses := true, plainKeys := false, apart := false }
def KernAnySaid : Prop := kernAnyRow.holds Try.pinned (OpenSpec.ofChange kernAnySpec)

/-- ITS FALSE NEIGHBOUR: 'it returns false'. Refute it at one input. -/
def kernAnyWrong : ChangeSpec := { name := "kernAny", fn := fun _ => fun
  | [d1, d2] => { results := [.lit (.bool false)], args := [d1, d2] }
  | _ => none }
def KernAnyWrongFalsely : Prop := kernAnyRow.holds Try.pinned (OpenSpec.ofChange kernAnyWrong)

/-- 'pochoirlaw40.KernShifts': WHATEVER THE INPUT: true; the input reads as it did. -/
def kernShiftsSpec : ChangeSpec := { name := "kernShifts", fn := fun _ => fun
  | [d1, d2] => { results := [.lit (.bool true)], args := [d1, d2] }
  | _ => none }
def kernShiftsRow : OpenClaim := { program := "ythnojbbfmcapnaa", sum := "e1e602fe80f53cbafafdef8f6df246864c58ea1975931f10003b1006ffa6f5bc", func := "pochoir/pochoirlaw40.KernShifts", spec := "kernShifts", inPlace := ["internal/abi.NoEscape"], unfollowed := true, recurses := true, plainKeys := false, apart := false }
def KernShiftsSaid : Prop := kernShiftsRow.holds Try.pinned (OpenSpec.ofChange kernShiftsSpec)

/-- ITS FALSE NEIGHBOUR: 'it returns false'. Refute it at one input. -/
def kernShiftsWrong : ChangeSpec := { name := "kernShifts", fn := fun _ => fun
  | [d1, d2] => { results := [.lit (.bool false)], args := [d1, d2] }
  | _ => none }
def KernShiftsWrongFalsely : Prop := kernShiftsRow.holds Try.pinned (OpenSpec.ofChange kernShiftsWrong)

/- THE SECOND FORM. 'bulk': how many values and letters a reading holds, each counted each time it is reached (what is shared counts as often as it is met; a slice's spare places count too). A statement '..UptoSaid' is the law's where the arguments, and the package variables that the reading takes, are together of bulk at most 1048576: NARROWER than '..Said'. Prove '..Said' where nothing that the law and all that it calls make is longer than what came in: it says more and counts as full. Else prove '..UptoSaid'. A law counts once. -/
mutual
def uptoBulk {H : Type} : DataW H → Nat
  | .lit (.string bytes) => bytes.length + 1
  | .lit _ => 1
  | .nil => 1
  | .ptr d => uptoBulk d + 1
  | .slice elems spare => uptoBulkAll elems + uptoBulkAll spare + 1
  | .agg parts => uptoBulkAll parts + 1
  | .iface _ d => uptoBulk d + 1
  | .map entries => uptoBulkEntries entries + 1
  | .held _ => 1
def uptoBulkAll {H : Type} : List (DataW H) → Nat
  | [] => 0
  | d :: r => uptoBulk d + uptoBulkAll r
def uptoBulkEntries {H : Type} : List (Lit × DataW H) → Nat
  | [] => 0
  | x :: r => uptoBulkEntry x + uptoBulkEntries r
def uptoBulkEntry {H : Type} : Lit × DataW H → Nat
  | (.string bytes, d) => bytes.length + uptoBulk d + 1
  | (_, d) => uptoBulk d + 1
 end
def uptoSmall : (H : Type) → List (DataW H) → Bool := fun _ ds => decide (uptoBulkAll ds ≤ 1048576)
def OpenSpec.upto (s : _root_.Go.ChangeSpec) : _root_.Go.OpenSpec := { _root_.Go.OpenSpec.ofChange s with cond := some uptoSmall }

/-- 'pochoirlaw40.KernBack', WHERE WHAT IT READS IS OF BULK AT MOST 1048576: true; the input reads as it did. -/
def kernBackUptoRow : OpenClaim := { program := "ythnojbbfmcapnaa", sum := "e1e602fe80f53cbafafdef8f6df246864c58ea1975931f10003b1006ffa6f5bc", func := "pochoir/pochoirlaw40.KernBack", spec := "kernBack", inPlace := ["internal/abi.NoEscape"], unfollowed := true, recurses := true, plainKeys := false, apart := false, narrowed := true }
def KernBackUptoSaid : Prop := kernBackUptoRow.holds Try.pinned (OpenSpec.upto kernBackSpec)

/-- 'pochoirlaw40.KernAny', WHERE WHAT IT READS IS OF BULK AT MOST 1048576: true; the input reads as it did. -/
def kernAnyUptoRow : OpenClaim := { program := "ythnojbbfmcapnaa", sum := "e1e602fe80f53cbafafdef8f6df246864c58ea1975931f10003b1006ffa6f5bc", func := "pochoir/pochoirlaw40.KernAny", spec := "kernAny", inPlace := ["internal/abi.NoEscape"], unfollowed := true, recurses := true, plainKeys := false, apart := false, narrowed := true }
def KernAnyUptoSaid : Prop := kernAnyUptoRow.holds Try.pinned (OpenSpec.upto kernAnySpec)

/-- 'pochoirlaw40.KernShifts', WHERE WHAT IT READS IS OF BULK AT MOST 1048576: true; the input reads as it did. -/
def kernShiftsUptoRow : OpenClaim := { program := "ythnojbbfmcapnaa", sum := "e1e602fe80f53cbafafdef8f6df246864c58ea1975931f10003b1006ffa6f5bc", func := "pochoir/pochoirlaw40.KernShifts", spec := "kernShifts", inPlace := ["internal/abi.NoEscape"], unfollowed := true, recurses := true, plainKeys := false, apart := false, narrowed := true }
def KernShiftsUptoSaid : Prop := kernShiftsUptoRow.holds Try.pinned (OpenSpec.upto kernShiftsSpec)

end Rows
end Go.Proofs.Ythnojbbfmcapnaa
