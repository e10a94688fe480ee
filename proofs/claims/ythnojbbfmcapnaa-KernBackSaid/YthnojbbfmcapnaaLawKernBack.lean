/- PROVED: 'pochoirlaw40.KernBack' returns true for every pairs and every three numbers, and its arguments read afterwards as they did. CONDITIONS: none beyond those of the given row. -/
import Derived.Test.YthnojbbfmcapnaaPr28
import Derived.Test.YthnojbbfmcapnaaRows
import Derived.Test.YthnojbbfmcapnaaPureLawBack
import Derived.Test.YthnojbbfmcapnaaOpen
namespace Go.Proofs.Ythnojbbfmcapnaa.kernBack
set_option linter.unusedVariables false
set_option linter.unusedSimpArgs false
open Go.ChangeShapes Go.WideShapes Go.ChangeAt Go.RowKit
open Go.ChangeMaps (open_string shut_string)
open Go.Proofs.YthnojbbfmcapnaaW.PrintWords Go.Proofs.YthnojbbfmcapnaaW.PrintLast
open Go.Proofs.Ythnojbbfmcapnaa.Pr Go.Proofs.Ythnojbbfmcapnaa.Open
theorem own : ownKnob Try.prog.godebug = none := by kernel_rfl
theorem laidOut : laidOutB Try.prog = true := by kernel_rfl
abbrev wf3 (a b c : Int) : Prop := (Lit.int .i64 a).wf = true ∧ (Lit.int .i64 b).wf = true ∧ (Lit.int .i64 c).wf = true
theorem opens41 : Opens Try.prog k41 41 (fun x => wf3 x.f0 x.f1 x.f2) :=
  opens_struct Try.underlying41 (by kernel_rfl) (parts_iso (fun x : S41 => (x.f0, x.f1, x.f2)) (fun y => ⟨y.1, y.2.1, y.2.2⟩) (fun _ => rfl) (parts_cons (opens_int Try.underlying3) rfl (by kernel_rfl) (parts_cons (opens_int Try.underlying3) rfl (by kernel_rfl) (parts_last (opens_int Try.underlying3) rfl (by kernel_rfl)))))
set_option maxRecDepth 100000 in
theorem lifted (os : Os) (started : os.Started) (H : Type) (enc : TypeId × Value → H) :
    ReturnsInHanded {} Try.checked os 3 .any (Rows.kernBackSpec.pre6 enc Try.prog Try.f3 Rows.kernBackRow.domain false) (Rows.kernBackSpec.post enc Try.prog Try.f3 false true false false) := by
  refine returnsInHanded_of_change_sized (C := Try.checked) own started (by kernel_rfl) Try.func3
    (ChangeSpec.witness6 (enc := enc) (C := Try.checked) false ⟨#[], #[.slice none 0 0, .agg #[.int .i64 0, .int .i64 0, .int .i64 0]], []⟩ 8 (by kernel_rfl) (by kernel_rfl) (by kernel_rfl) (by kernel_rfl)) ?_
  intro W base args ds gs before hval0 hW hcnd hsz0 _
  have hval : ∀ (j : Nat) t v, Try.f3.params[j]? = some t → args[j]? = some v → Value.okWide Try.prog W .any base t v := hval0
  have hW' := hW
  obtain ⟨p, q, hA0, hV, rfl, hfz, hnd⟩ := hW
  have hA : DataW.TrodAll enc Try.prog W 0 (fun _ => true) true Try.f3.params.toList args.toList ds p := hA0
  rw [Try.params3] at hA hval
  obtain ⟨v0, vs0, d0, ds0, p0, q0, hargs, rfl, rfl, h0, r0⟩ := trodAll_cons hA
  obtain ⟨v1, vs1, d1, ds1, p1, q1, rfl, rfl, rfl, h1, r1⟩ := trodAll_cons r0
  obtain ⟨rfl, rfl, rfl⟩ := trodAll_nil r1
  obtain rfl : args = #[v0, v1] := by cases args; simp_all
  obtain ⟨rfl, rfl⟩ := trodVars_none hV
  obtain ⟨A0, n0, c0, rfl⟩ := okWide_slice Try.underlying22 (hval 0 22 v0 rfl rfl)
  have k0 := h0
  have lt0 : ∀ x ∈ p0, x.block < W.heap.size := by obtain ⟨m, hm⟩ := k0; exact DataW.trod_lt m _ _ _ hm
  obtain ⟨fuel0, hf0⟩ := h0
  obtain ⟨l0, ⟨B0, e0, hs0, hl0, hC0⟩, hq0⟩ := (opens_slice Try.underlying22 (by kernel_rfl) opens41).of hf0
  simp only [Value.cells, List.cons.injEq, Value.slice.injEq, and_true] at hs0
  obtain ⟨rfl, rfl, rfl⟩ := hs0
  obtain ⟨cs1, rfl⟩ := okWide_agg (.inr ⟨_, _, Try.underlying23⟩) (hval 1 23 v1 rfl rfl)
  have k1 := h1
  have lt1 : ∀ x ∈ p1, x.block < W.heap.size := by obtain ⟨m, hm⟩ := k1; exact DataW.trod_lt m _ _ _ hm
  obtain ⟨fuel1, hf1⟩ := h1
  obtain ⟨x1, hl1, hx1, _⟩ := open_array Try.underlying23 Try.underlying3 (by kernel_rfl) (by kernel_rfl) hf1
  obtain ⟨m0, m1, m2, rfl⟩ : ∃ m0 m1 m2, x1 = [m0, m1, m2] := by
    match x1, hl1 with
    | [m0, m1, m2], _ => exact ⟨m0, m1, m2, rfl⟩
  obtain rfl : cs1 = #[.int .i64 m0, .int .i64 m1, .int .i64 m2] := by
    have : cs1.toList = _ := hx1
    rw [← Array.toArray_toList (xs := cs1), this]
    rfl
  clear hA0 hval0 hsz0
  obtain ⟨k, hk⟩ := Pure.kernBack l0 m0 m1 m2
  refine (pochoirlaw40_KernBack.calls k A0 c0 l0 m0 m1 m2 true W hC0 hl0 hk).mono fun e W' ⟨he, bel⟩ => ?_
  subst he
  exact ⟨_, rfl, _, _, _, [], _, [], hW', trodAll_mk1 (shut_bool Try.underlying4 _), (trodAll_cons_mk (Below.trod laidOut (by kernel_rfl) (of_decide_eq_true (by kernel_rfl)) k0 bel lt0) (trodAll_cons_mk (Below.trod laidOut (by kernel_rfl) (of_decide_eq_true (by kernel_rfl)) k1 bel lt1) trodAll_mk0)), rfl, bel.frame _, fun h => by cases h⟩
theorem over : Rows.kernBackRow.holds Try.pinned (OpenSpec.ofChange Rows.kernBackSpec) :=
  OpenClaim.holds_of_wide 3 Try.f3 rfl rfl rfl rfl rfl rfl rfl ⟨rfl, rfl, rfl, rfl, rfl⟩ rfl rfl rfl rfl rfl (by kernel_rfl) Try.func3 (by kernel_rfl)
    (of_decide_eq_true (by kernel_rfl)) (by unfold Func.isWrapper; first | (rw [if_pos (by decide +kernel)]; kernel_rfl) | (rw [if_neg (by decide +kernel)]; exact ⟨rfl, rfl⟩))
    (fun os started H enc _ => lifted os started H enc)
theorem proved : Rows.KernBackSaid := over
#print axioms proved
end Go.Proofs.Ythnojbbfmcapnaa.kernBack
namespace Go.Proofs.Ythnojbbfmcapnaa
/-- The row, under a short name, for the claim. -/
theorem kernBack_holds : Rows.KernBackSaid := kernBack.proved
end Go.Proofs.Ythnojbbfmcapnaa
