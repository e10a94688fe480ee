-- printed by a program of this session's (wip/mp.sh), out of the translation; the texts of its folder 'given' are typed by hand
import Derived.Test.YthimbpoeoegehaaProg
import Derived.Below
import Derived.Deep.Draws
import Derived.Deep.AppendLies
import Derived.Maps.AppendAt
import Derived.OwnWalk
import Derived.Laws.BytesArg
import Derived.Laws.MakeOwn
import Derived.Laws.OwnMore
import Derived.Deep.OwnRows
import Derived.Tactics
import Derived.Lib.ConvBytes
import Derived.Laws.Slices
import Derived.WalkKit
import Derived.KernelRfl
import Derived.RowKit3
import Derived.Deep.LoopGhost
import Derived.Deep.QuietTactic
import Derived.BigQuiet
import Derived.WideLaws
import Derived.Deep.DeepCutAuto
import Derived.Deep.CutBlock
import Derived.Deep.RegionHeld3
import Derived.Laws.Rows
import Derived.Lib.AppendStr
import Derived.ArgAppend
import Derived.Laws.IdiomCopy
import Derived.OrdersHeld
import Derived.Laws.BitsLemmas
import Derived.RowKit
import Derived.Test.YthimbpoeoegehaaWWords
import Derived.Test.YthimbpoeoegehaaWLast
import Derived.Test.YthimbpoeoegehaaWTab
import Derived.Test.YthimbpoeoegehaaWFour
import Derived.Test.YthimbpoeoegehaaWQPut
import Derived.Test.YthimbpoeoegehaaWApart
import Derived.Test.YthimbpoeoegehaaWArr
import Derived.Test.YthimbpoeoegehaaWZeros
import Derived.Test.YthimbpoeoegehaaWFoot
import Derived.Test.YthimbpoeoegehaaWKept
import Derived.Test.YthimbpoeoegehaaWShare
import Derived.Test.YthimbpoeoegehaaWN
import Derived.Test.YthimbpoeoegehaaWFootNe
import Derived.Test.YthimbpoeoegehaaWAt
import Derived.Test.YthimbpoeoegehaaWEqStruct
import Derived.Test.YthimbpoeoegehaaWRepsOne
import Derived.Test.YthimbpoeoegehaaWInv
import Derived.Test.YthimbpoeoegehaaWInvWords
import Derived.Test.YthimbpoeoegehaaWGuard
import Derived.Test.YthimbpoeoegehaaWNEv
import Derived.Test.YthimbpoeoegehaaWMore
namespace Go.Proofs.Ythimbpoeoegehaa.Pr
open Go.RowKit Go.Proofs.YthimbpoeoegehaaW.PrintWords Go.Proofs.YthimbpoeoegehaaW.PrintLast Go.Proofs.YthimbpoeoegehaaW.PrintMore
attribute [local go_sem] max2_int min2_int max_two min_two max_three min_three max_four min_four   -- for this text's walks alone
set_option linter.unusedVariables false
set_option linter.unusedSimpArgs false



def errW : Option Int → Value
  | none => .nilIface
  | some c => .iface 0 (.int .i64 c)
theorem errW_none : errW none = .nilIface := rfl
theorem errW_some (c : Int) : errW (some c) = .iface 0 (.int .i64 c) := rfl

theorem info27 : (Try.prog.info? 27).map (fun i => (i.zero, i.size, i.bytes)) = some (some (.agg #[(.int .i64 0), (.int .i64 0)]), 2, 16) := by kernel_rfl
theorem info37 : (Try.prog.info? 37).map (fun i => (i.zero, i.size, i.bytes)) = some (some (.agg #[(.int .i64 0), (.bool false), (.int .i64 0), (.int .i64 0), (.int .i64 0), (.int .i64 0), (.int .i64 0), (.int .i64 0)]), 8, 64) := by kernel_rfl
-- the values' own types
/-! #### struct type 27 -/
structure S27 where
  f0 : Int
  f1 : Int
def z27 : S27 := ⟨(0 : Int), (0 : Int)⟩
def k27 : Kd S27 := Kd.iso (Kd.pair (Kd.int .i64) (Kd.int .i64)) (fun x : S27 => (x.f0, x.f1))
theorem k27_open {w : World} {x : S27} {cs : List Value} (h : k27.K w x cs) : cs = [.int .i64 x.f0, .int .i64 x.f1] := by
  obtain ⟨_, _, rfl, rfl, rfl⟩ := h
  exact rfl
theorem k27_openM {w : World} {base : Nat} {ok : Nat → Prop} {x : S27} {cs : List Value} (h : k27.M w base ok x cs) : cs = [.int .i64 x.f0, .int .i64 x.f1] := by
  obtain ⟨_, _, rfl, rfl, rfl⟩ := h
  exact rfl
theorem k27_mk (w : World) (x : S27)  : k27.K w x [.int .i64 x.f0, .int .i64 x.f1] := ⟨[.int .i64 x.f0], [.int .i64 x.f1], rfl, rfl, rfl⟩
theorem k27_mkM (w : World) (base : Nat) (ok : Nat → Prop) (x : S27)  : k27.M w base ok x [.int .i64 x.f0, .int .i64 x.f1] := ⟨[.int .i64 x.f0], [.int .i64 x.f1], rfl, rfl, rfl⟩
theorem k27_mkF (W : World) (ok : Nat → Prop) (x : S27) : Kd.FK k27 W ok x [.int .i64 x.f0, .int .i64 x.f1] := fun W2 _ => k27_mk W2 x
def rd_T27 (xs : List S27) (i : Int) : S27 := xs.getD i.toNat z27
theorem at_T27 {w : World} {A : Option Addr} {n : Nat} {xs : List S27} (h : Kd.C k27 w A n xs) (i : Int) (h0 : 0 ≤ i) (h1 : i < n) : ∃ ad , A = some ad ∧ w.cell? (ad.add (i.toNat * 2)) = some (.int .i64 (rd_T27 xs i).f0) ∧ w.cell? ⟨(ad.add (i.toNat * 2)).block, (ad.add (i.toNat * 2)).off + 1, none⟩ = some (.int .i64 (rd_T27 xs i).f1) := by
  obtain ⟨ad, c, e, _, hK, hc0⟩ := Kd.C_get h z27 i h0 h1
  have hc : ∀ j u, c[j]? = some u → w.cell? (ad.add (i.toNat * 2 + j)) = some u := hc0
  obtain rfl := k27_open hK
  exact ⟨ad, e, hc 0 _ rfl, by rw [← add_field _ _ 1 (by omega)]; exact hc 1 _ rfl⟩

/-! #### struct type 37 -/
structure S37 where
  f0 : Int
  f1 : Bool
  f2 : S27
  f3 : S27
  f4 : S27
def z37 : S37 := ⟨(0 : Int), false, z27, z27, z27⟩
def k37 : Kd S37 := Kd.iso (Kd.pair (Kd.int .i64) (Kd.pair Kd.bool (Kd.pair k27 (Kd.pair k27 k27)))) (fun x : S37 => (x.f0, x.f1, x.f2, x.f3, x.f4))
theorem k37_open {w : World} {x : S37} {cs : List Value} (h : k37.K w x cs) : cs = [.int .i64 x.f0, .bool x.f1, .int .i64 x.f2.f0, .int .i64 x.f2.f1, .int .i64 x.f3.f0, .int .i64 x.f3.f1, .int .i64 x.f4.f0, .int .i64 x.f4.f1] := by
  obtain ⟨_, _, rfl, rfl, ⟨_, _, rfl, rfl, ⟨_, _, rfl, s2, ⟨_, _, rfl, s4, s6⟩⟩⟩⟩ := h
  obtain rfl := k27_open s2
  obtain rfl := k27_open s4
  obtain rfl := k27_open s6
  exact rfl
theorem k37_openM {w : World} {base : Nat} {ok : Nat → Prop} {x : S37} {cs : List Value} (h : k37.M w base ok x cs) : cs = [.int .i64 x.f0, .bool x.f1, .int .i64 x.f2.f0, .int .i64 x.f2.f1, .int .i64 x.f3.f0, .int .i64 x.f3.f1, .int .i64 x.f4.f0, .int .i64 x.f4.f1] := by
  obtain ⟨_, _, rfl, rfl, ⟨_, _, rfl, rfl, ⟨_, _, rfl, s2, ⟨_, _, rfl, s4, s6⟩⟩⟩⟩ := h
  obtain rfl := k27_openM s2
  obtain rfl := k27_openM s4
  obtain rfl := k27_openM s6
  exact rfl
theorem k37_mk (w : World) (x : S37)  : k37.K w x [.int .i64 x.f0, .bool x.f1, .int .i64 x.f2.f0, .int .i64 x.f2.f1, .int .i64 x.f3.f0, .int .i64 x.f3.f1, .int .i64 x.f4.f0, .int .i64 x.f4.f1] := ⟨[.int .i64 x.f0], [.bool x.f1, .int .i64 x.f2.f0, .int .i64 x.f2.f1, .int .i64 x.f3.f0, .int .i64 x.f3.f1, .int .i64 x.f4.f0, .int .i64 x.f4.f1], rfl, rfl, ⟨[.bool x.f1], [.int .i64 x.f2.f0, .int .i64 x.f2.f1, .int .i64 x.f3.f0, .int .i64 x.f3.f1, .int .i64 x.f4.f0, .int .i64 x.f4.f1], rfl, rfl, ⟨[.int .i64 x.f2.f0, .int .i64 x.f2.f1], [.int .i64 x.f3.f0, .int .i64 x.f3.f1, .int .i64 x.f4.f0, .int .i64 x.f4.f1], rfl, (k27_mk w x.f2 ), ⟨[.int .i64 x.f3.f0, .int .i64 x.f3.f1], [.int .i64 x.f4.f0, .int .i64 x.f4.f1], rfl, (k27_mk w x.f3 ), (k27_mk w x.f4 )⟩⟩⟩⟩
theorem k37_mkM (w : World) (base : Nat) (ok : Nat → Prop) (x : S37)  : k37.M w base ok x [.int .i64 x.f0, .bool x.f1, .int .i64 x.f2.f0, .int .i64 x.f2.f1, .int .i64 x.f3.f0, .int .i64 x.f3.f1, .int .i64 x.f4.f0, .int .i64 x.f4.f1] := ⟨[.int .i64 x.f0], [.bool x.f1, .int .i64 x.f2.f0, .int .i64 x.f2.f1, .int .i64 x.f3.f0, .int .i64 x.f3.f1, .int .i64 x.f4.f0, .int .i64 x.f4.f1], rfl, rfl, ⟨[.bool x.f1], [.int .i64 x.f2.f0, .int .i64 x.f2.f1, .int .i64 x.f3.f0, .int .i64 x.f3.f1, .int .i64 x.f4.f0, .int .i64 x.f4.f1], rfl, rfl, ⟨[.int .i64 x.f2.f0, .int .i64 x.f2.f1], [.int .i64 x.f3.f0, .int .i64 x.f3.f1, .int .i64 x.f4.f0, .int .i64 x.f4.f1], rfl, (k27_mkM w base ok x.f2 ), ⟨[.int .i64 x.f3.f0, .int .i64 x.f3.f1], [.int .i64 x.f4.f0, .int .i64 x.f4.f1], rfl, (k27_mkM w base ok x.f3 ), (k27_mkM w base ok x.f4 )⟩⟩⟩⟩
theorem k37_mkF (W : World) (ok : Nat → Prop) (x : S37) : Kd.FK k37 W ok x [.int .i64 x.f0, .bool x.f1, .int .i64 x.f2.f0, .int .i64 x.f2.f1, .int .i64 x.f3.f0, .int .i64 x.f3.f1, .int .i64 x.f4.f0, .int .i64 x.f4.f1] := fun W2 _ => k37_mk W2 x
def rd_T37 (xs : List S37) (i : Int) : S37 := xs.getD i.toNat z37
theorem at_T37 {w : World} {A : Option Addr} {n : Nat} {xs : List S37} (h : Kd.C k37 w A n xs) (i : Int) (h0 : 0 ≤ i) (h1 : i < n) : ∃ ad , A = some ad ∧ w.cell? (ad.add (i.toNat * 8)) = some (.int .i64 (rd_T37 xs i).f0) ∧ w.cell? ⟨(ad.add (i.toNat * 8)).block, (ad.add (i.toNat * 8)).off + 1, none⟩ = some (.bool (rd_T37 xs i).f1) ∧ w.cell? ⟨(ad.add (i.toNat * 8)).block, (ad.add (i.toNat * 8)).off + 2, none⟩ = some (.int .i64 (rd_T37 xs i).f2.f0) ∧ w.cell? ⟨(ad.add (i.toNat * 8)).block, (ad.add (i.toNat * 8)).off + 3, none⟩ = some (.int .i64 (rd_T37 xs i).f2.f1) ∧ w.cell? ⟨(ad.add (i.toNat * 8)).block, (ad.add (i.toNat * 8)).off + 4, none⟩ = some (.int .i64 (rd_T37 xs i).f3.f0) ∧ w.cell? ⟨(ad.add (i.toNat * 8)).block, (ad.add (i.toNat * 8)).off + 5, none⟩ = some (.int .i64 (rd_T37 xs i).f3.f1) ∧ w.cell? ⟨(ad.add (i.toNat * 8)).block, (ad.add (i.toNat * 8)).off + 6, none⟩ = some (.int .i64 (rd_T37 xs i).f4.f0) ∧ w.cell? ⟨(ad.add (i.toNat * 8)).block, (ad.add (i.toNat * 8)).off + 7, none⟩ = some (.int .i64 (rd_T37 xs i).f4.f1) := by
  obtain ⟨ad, c, e, _, hK, hc0⟩ := Kd.C_get h z37 i h0 h1
  have hc : ∀ j u, c[j]? = some u → w.cell? (ad.add (i.toNat * 8 + j)) = some u := hc0
  obtain rfl := k37_open hK
  exact ⟨ad, e, hc 0 _ rfl, by rw [← add_field _ _ 1 (by omega)]; exact hc 1 _ rfl, by rw [← add_field _ _ 2 (by omega)]; exact hc 2 _ rfl, by rw [← add_field _ _ 3 (by omega)]; exact hc 3 _ rfl, by rw [← add_field _ _ 4 (by omega)]; exact hc 4 _ rfl, by rw [← add_field _ _ 5 (by omega)]; exact hc 5 _ rfl, by rw [← add_field _ _ 6 (by omega)]; exact hc 6 _ rfl, by rw [← add_field _ _ 7 (by omega)]; exact hc 7 _ rfl⟩

def rd_L4 (xs : List (List S37)) (i : Int) : (List S37) := xs.getD i.toNat ([] : List S37)
theorem at_L4 {w : World} {A : Option Addr} {n : Nat} {xs : List (List S37)} (h : Kd.C (Kd.slice 37 k37) w A n xs) (i : Int) (h0 : 0 ≤ i) (h1 : i < n) : ∃ ad A0 c0, A = some ad ∧ w.cell? (ad.add i.toNat) = some (.slice A0 (rd_L4 xs i).length c0) ∧ (rd_L4 xs i).length ≤ c0 ∧ k37.C w A0 (rd_L4 xs i).length (rd_L4 xs i) := by
  obtain ⟨ad, c, e, _, hK, hc0⟩ := Kd.C_get h ([] : List S37) i h0 h1
  have hc : ∀ j u, c[j]? = some u → w.cell? (ad.add (i.toNat * 1 + j)) = some u := hc0
  obtain ⟨A0, c0, rfl, l0, g0⟩ := hK
  exact ⟨ad, A0, c0, e, by have hq := hc 0 _ rfl; rwa [Nat.mul_one, Nat.add_zero] at hq, l0, g0⟩

/-! #### struct type 23 -/
structure S23 where
  f0 : Int
  f1 : Int
  f2 : Int
  f3 : Int
def z23 : S23 := ⟨(0 : Int), (0 : Int), (0 : Int), (0 : Int)⟩
def k23 : Kd S23 := Kd.iso (Kd.pair (Kd.int .i64) (Kd.pair (Kd.int .i64) (Kd.pair (Kd.int .i64) (Kd.int .i64)))) (fun x : S23 => (x.f0, x.f1, x.f2, x.f3))
theorem k23_open {w : World} {x : S23} {cs : List Value} (h : k23.K w x cs) : cs = [.int .i64 x.f0, .int .i64 x.f1, .int .i64 x.f2, .int .i64 x.f3] := by
  obtain ⟨_, _, rfl, rfl, ⟨_, _, rfl, rfl, ⟨_, _, rfl, rfl, rfl⟩⟩⟩ := h
  exact rfl
theorem k23_openM {w : World} {base : Nat} {ok : Nat → Prop} {x : S23} {cs : List Value} (h : k23.M w base ok x cs) : cs = [.int .i64 x.f0, .int .i64 x.f1, .int .i64 x.f2, .int .i64 x.f3] := by
  obtain ⟨_, _, rfl, rfl, ⟨_, _, rfl, rfl, ⟨_, _, rfl, rfl, rfl⟩⟩⟩ := h
  exact rfl
theorem k23_mk (w : World) (x : S23)  : k23.K w x [.int .i64 x.f0, .int .i64 x.f1, .int .i64 x.f2, .int .i64 x.f3] := ⟨[.int .i64 x.f0], [.int .i64 x.f1, .int .i64 x.f2, .int .i64 x.f3], rfl, rfl, ⟨[.int .i64 x.f1], [.int .i64 x.f2, .int .i64 x.f3], rfl, rfl, ⟨[.int .i64 x.f2], [.int .i64 x.f3], rfl, rfl, rfl⟩⟩⟩
theorem k23_mkM (w : World) (base : Nat) (ok : Nat → Prop) (x : S23)  : k23.M w base ok x [.int .i64 x.f0, .int .i64 x.f1, .int .i64 x.f2, .int .i64 x.f3] := ⟨[.int .i64 x.f0], [.int .i64 x.f1, .int .i64 x.f2, .int .i64 x.f3], rfl, rfl, ⟨[.int .i64 x.f1], [.int .i64 x.f2, .int .i64 x.f3], rfl, rfl, ⟨[.int .i64 x.f2], [.int .i64 x.f3], rfl, rfl, rfl⟩⟩⟩
theorem k23_mkF (W : World) (ok : Nat → Prop) (x : S23) : Kd.FK k23 W ok x [.int .i64 x.f0, .int .i64 x.f1, .int .i64 x.f2, .int .i64 x.f3] := fun W2 _ => k23_mk W2 x
def rd_T23 (xs : List S23) (i : Int) : S23 := xs.getD i.toNat z23
theorem at_T23 {w : World} {A : Option Addr} {n : Nat} {xs : List S23} (h : Kd.C k23 w A n xs) (i : Int) (h0 : 0 ≤ i) (h1 : i < n) : ∃ ad , A = some ad ∧ w.cell? (ad.add (i.toNat * 4)) = some (.int .i64 (rd_T23 xs i).f0) ∧ w.cell? ⟨(ad.add (i.toNat * 4)).block, (ad.add (i.toNat * 4)).off + 1, none⟩ = some (.int .i64 (rd_T23 xs i).f1) ∧ w.cell? ⟨(ad.add (i.toNat * 4)).block, (ad.add (i.toNat * 4)).off + 2, none⟩ = some (.int .i64 (rd_T23 xs i).f2) ∧ w.cell? ⟨(ad.add (i.toNat * 4)).block, (ad.add (i.toNat * 4)).off + 3, none⟩ = some (.int .i64 (rd_T23 xs i).f3) := by
  obtain ⟨ad, c, e, _, hK, hc0⟩ := Kd.C_get h z23 i h0 h1
  have hc : ∀ j u, c[j]? = some u → w.cell? (ad.add (i.toNat * 4 + j)) = some u := hc0
  obtain rfl := k23_open hK
  exact ⟨ad, e, hc 0 _ rfl, by rw [← add_field _ _ 1 (by omega)]; exact hc 1 _ rfl, by rw [← add_field _ _ 2 (by omega)]; exact hc 2 _ rfl, by rw [← add_field _ _ 3 (by omega)]; exact hc 3 _ rfl⟩

end Go.Proofs.Ythimbpoeoegehaa.Pr
