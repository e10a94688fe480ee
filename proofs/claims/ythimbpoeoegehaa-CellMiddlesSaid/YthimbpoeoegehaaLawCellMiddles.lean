/- PROVED: 'pochoirlaw25.CellMiddles' returns true for every cell, every em and every three numbers, and its arguments read afterwards as they did. CONDITIONS: none beyond those of the given row. -/
import Derived.Test.YthimbpoeoegehaaRows
import Derived.Test.YthimbpoeoegehaaPr12
import Derived.Test.YthimbpoeoegehaaOpen
namespace Go.Proofs.Ythimbpoeoegehaa.Pure
open Go.RowKit Go.Proofs.Ythimbpoeoegehaa.Pr
open Go.Proofs.YthimbpoeoegehaaW.PrintWords Go.Proofs.YthimbpoeoegehaaW.PrintLast

set_option maxRecDepth 100000 in
set_option maxHeartbeats 4000000 in
theorem awake9 : pochoirlaw25_awake.f 9 = some true := by decide +kernel

theorem middle_j0 (k : Nat) (a1 a2 a3 c0 c1 c2 c3 : Int) (b : Bool) : ∃ r, cell_Middle.j0 (k + 1) a1 a2 a3 b c0 c1 c2 c3 = some r ∧ pochoirref25_Middle.j0 (k + 1) a1 a2 a3 b c0 c1 c2 c3 = some r := by
  simp only [cell_Middle.j0, pochoirref25_Middle.j0]
  cases b with
  | true => exact ⟨_, rfl, rfl⟩
  | false =>
    rw [if_neg (by decide), if_neg (by decide)]
    unfold cell_middle.f
    rw [Option.bind_some]
    obtain ⟨b, e1, e2⟩ := told.plane (wrap64 ((wrap64 ((wrap64 (2 * (wrap64 (c0 + a2)))) + 1)) * a1)) (wrap64 ((wrap64 ((wrap64 (2 * (wrap64 (c1 + a3)))) + 1)) * a1))
    rw [e2, Option.bind_some]
    show ∃ r, (plane_May.f _ _).bind _ = _ ∧ _
    rw [e1, Option.bind_some]
    cases b
    · exact ⟨_, rfl, rfl⟩
    · exact ⟨_, rfl, rfl⟩

theorem within_eq (a b c : Int) : cell_within.f a b c = some (decide (b ≤ a) && decide (a ≤ c)) := by
  unfold cell_within.f
  by_cases h : a ≥ b
  · rw [if_pos h, decide_eq_true (show b ≤ a from h), Bool.true_and]
  · rw [if_neg h, decide_eq_false (show ¬ b ≤ a from h), Bool.false_and]

theorem middle (k : Nat) (c0 c1 c2 c3 a1 a2 a3 : Int) : ∃ r, cell_Middle.f (k + 1) c0 c1 c2 c3 a1 a2 a3 = some r ∧ pochoirref25_Middle.f (k + 1) c0 c1 c2 c3 a1 a2 a3 = some r := by
  obtain ⟨bm, e1, e2, hb⟩ := told.may c0 c1 c2 c3
  obtain ⟨be, e3, e4⟩ := told.em a1
  unfold cell_Middle.f pochoirref25_Middle.f
  rw [e1, e2, Option.bind_some, Option.bind_some]
  cases bm with
  | false => exact middle_j0 k a1 a2 a3 c0 c1 c2 c3 true
  | true =>
    obtain ⟨h2, h2', h3, h3'⟩ := hb rfl
    rw [if_pos rfl, if_pos rfl, e3, e4, Option.bind_some, Option.bind_some]
    cases be with
    | false => exact middle_j0 k a1 a2 a3 c0 c1 c2 c3 true
    | true =>
      rw [if_pos rfl, if_pos rfl, within_eq, within_eq, Option.bind_some, Option.bind_some]
      have w2 : wrap64 (c2 - 1) = c2 - 1 := by simp only [wrap64]; omega
      have w3 : wrap64 (c3 - 1) = c3 - 1 := by simp only [wrap64]; omega
      rw [w2, w3]
      by_cases g1 : a2 < 0
      · rw [if_pos g1, decide_eq_false (show ¬ 0 ≤ a2 by omega), Bool.false_and, if_neg (by decide)]
        exact middle_j0 k a1 a2 a3 c0 c1 c2 c3 true
      · rw [if_neg g1, decide_eq_true (show 0 ≤ a2 by omega), Bool.true_and]
        by_cases g2 : a2 ≥ c2
        · rw [if_pos g2, decide_eq_false (show ¬ a2 ≤ c2 - 1 by omega), if_neg (by decide)]
          exact middle_j0 k a1 a2 a3 c0 c1 c2 c3 true
        · rw [if_neg g2, decide_eq_true (show a2 ≤ c2 - 1 by omega), if_pos rfl]
          by_cases g3 : a3 < 0
          · rw [if_pos g3, decide_eq_false (show ¬ 0 ≤ a3 by omega), Bool.false_and]
            exact middle_j0 k a1 a2 a3 c0 c1 c2 c3 true
          · rw [if_neg g3, decide_eq_true (show 0 ≤ a3 by omega), Bool.true_and]
            by_cases g4 : a3 ≥ c3
            · rw [decide_eq_true g4, decide_eq_false (show ¬ a3 ≤ c3 - 1 by omega)]
              exact middle_j0 k a1 a2 a3 c0 c1 c2 c3 true
            · rw [decide_eq_false g4, decide_eq_true (show a3 ≤ c3 - 1 by omega)]
              exact middle_j0 k a1 a2 a3 c0 c1 c2 c3 false

theorem law (c0 c1 c2 c3 a1 n0 n1 n2 : Int) : pochoirlaw25_CellMiddles.f 9 c0 c1 c2 c3 a1 n0 n1 n2 = some true := by
  obtain ⟨r, e1, e2⟩ := middle 8 c0 c1 c2 c3 a1 n0 n1
  obtain ⟨bm, e3, e4, _⟩ := told.may c0 c1 c2 c3
  unfold pochoirlaw25_CellMiddles.f
  rw [awake9, Option.bind_some, if_pos rfl, e1, Option.bind_some, e2, Option.bind_some]
  rw [if_neg (by simp), if_pos rfl, e3, Option.bind_some, e4, Option.bind_some, if_neg (by simp)]
  rfl
end Go.Proofs.Ythimbpoeoegehaa.Pure

namespace Go.Proofs.Ythimbpoeoegehaa.cellMiddles
open Go.ChangeShapes Go.WideShapes Go.ChangeAt Go.RowKit
open Go.Proofs.YthimbpoeoegehaaW.PrintWords Go.Proofs.YthimbpoeoegehaaW.PrintLast
open Go.Proofs.Ythimbpoeoegehaa.Pr Go.Proofs.Ythimbpoeoegehaa.Open
set_option linter.unusedVariables false
theorem own : ownKnob Try.prog.godebug = none := by kernel_rfl
theorem laidOut : laidOutB Try.prog = true := by kernel_rfl
theorem opens23 : Opens Try.prog k23 23 (fun _ => True) := by
  exact Opens.imp (opens_struct Try.underlying23 (by kernel_rfl) (parts_iso (fun x : S23 => (x.f0, x.f1, x.f2, x.f3)) (fun y => ⟨y.1, y.2.1, y.2.2.1, y.2.2.2⟩) (fun _ => rfl) (parts_cons (opens_int Try.underlying3) rfl (by kernel_rfl) (parts_cons (opens_int Try.underlying3) rfl (by kernel_rfl) (parts_cons (opens_int Try.underlying3) rfl (by kernel_rfl) (parts_last (opens_int Try.underlying3) rfl (by kernel_rfl))))))) (fun _ _ => trivial)

set_option maxRecDepth 100000 in
theorem lifted (os : Os) (started : os.Started) (H : Type) (enc : TypeId × Value → H) :
    ReturnsInHanded {} Try.checked os 3 .any (Rows.cellMiddlesSpec.pre6 enc Try.prog Try.f3 Rows.cellMiddlesRow.domain false) (Rows.cellMiddlesSpec.post enc Try.prog Try.f3 false true false false) := by
  refine returnsInHanded_of_change_sized (C := Try.checked) own started (by kernel_rfl) Try.func3
    (ChangeSpec.witness6 (enc := enc) (C := Try.checked) false ⟨#[], #[.agg #[.int .i64 0, .int .i64 0, .int .i64 0, .int .i64 0], .int .i64 0, .agg #[.int .i64 0, .int .i64 0, .int .i64 0]], []⟩ 8 (by kernel_rfl) (by kernel_rfl) (by kernel_rfl) (by kernel_rfl)) ?_
  intro W base args ds gs before hval0 hW hcnd hsz0 _
  have hval : ∀ (j : Nat) t v, Try.f3.params[j]? = some t → args[j]? = some v → Value.okWide Try.prog W .any base t v := hval0
  have hW' := hW
  obtain ⟨p, q, hA0, hV, rfl, hfz, hnd⟩ := hW
  have hA : DataW.TrodAll enc Try.prog W 0 (fun _ => true) true Try.f3.params.toList args.toList ds p := hA0
  rw [Try.params3] at hA hval
  obtain ⟨v0, vs0, d0, ds0, p0, q0, hargs, rfl, rfl, h0, r0⟩ := trodAll_cons hA
  obtain ⟨v1, vs1, d1, ds1, p1, q1, rfl, rfl, rfl, h1, r1⟩ := trodAll_cons r0
  obtain ⟨v2, vs2, d2, ds2, p2, q2, rfl, rfl, rfl, h2, r2⟩ := trodAll_cons r1
  obtain ⟨rfl, rfl, rfl⟩ := trodAll_nil r2
  obtain rfl : args = #[v0, v1, v2] := by cases args; simp_all
  obtain ⟨rfl, rfl⟩ := trodVars_none hV
  obtain ⟨cs0, rfl⟩ := okWide_agg (.inl ⟨_, Try.underlying23⟩) (hval 0 23 v0 rfl rfl)
  have k0 := h0
  have lt0 : ∀ x ∈ p0, x.block < W.heap.size := by obtain ⟨m, hm⟩ := k0; exact DataW.trod_lt m _ _ _ hm
  obtain ⟨fuel0, hf0⟩ := h0
  obtain ⟨x0, hx0, _⟩ := opens23.of hf0
  have hx0 := k23_open hx0
  obtain rfl : cs0 = #[.int .i64 x0.f0, .int .i64 x0.f1, .int .i64 x0.f2, .int .i64 x0.f3] := by
    have : cs0.toList = _ := hx0
    rw [← Array.toArray_toList (xs := cs0), this]
  obtain ⟨a1, rfl, rfl, rfl, w1⟩ := open_int Try.underlying3 (hval 1 3 v1 rfl rfl) h1
  obtain ⟨cs2, rfl⟩ := okWide_agg (.inr ⟨_, _, Try.underlying24⟩) (hval 2 24 v2 rfl rfl)
  have k2 := h2
  have lt2 : ∀ x ∈ p2, x.block < W.heap.size := by obtain ⟨m, hm⟩ := k2; exact DataW.trod_lt m _ _ _ hm
  obtain ⟨fuel2, hf2⟩ := h2
  obtain ⟨x2, hl2, hx2, _⟩ := open_array Try.underlying24 Try.underlying3 (by kernel_rfl) (by kernel_rfl) hf2
  obtain ⟨n0, n1, n2, rfl⟩ : ∃ n0 n1 n2, x2 = [n0, n1, n2] := by
    match x2, hl2 with
    | [n0, n1, n2], _ => exact ⟨n0, n1, n2, rfl⟩
  obtain rfl : cs2 = #[.int .i64 n0, .int .i64 n1, .int .i64 n2] := by
    have : cs2.toList = _ := hx2
    rw [← Array.toArray_toList (xs := cs2), this]
    rfl
  clear hA0 hval0 hsz0
  refine (pochoirlaw25_CellMiddles.calls 9 x0.f0 x0.f1 x0.f2 x0.f3 a1 n0 n1 n2 true W (Pure.law ..)).mono fun e W' ⟨he, bel⟩ => ?_
  subst he
  exact ⟨_, rfl, _, _, _, [], _, [], hW', trodAll_mk1 (shut_bool Try.underlying4 _), (trodAll_cons_mk (Below.trod laidOut (by kernel_rfl) (of_decide_eq_true (by kernel_rfl)) k0 bel lt0) (trodAll_cons_mk (shut_int Try.underlying3 w1) (trodAll_cons_mk (Below.trod laidOut (by kernel_rfl) (of_decide_eq_true (by kernel_rfl)) k2 bel lt2) trodAll_mk0))), rfl, bel.frame _, fun h => by cases h⟩
theorem over : Rows.cellMiddlesRow.holds Try.pinned (OpenSpec.ofChange Rows.cellMiddlesSpec) :=
  OpenClaim.holds_of_wide 3 Try.f3 rfl rfl rfl rfl rfl rfl rfl ⟨rfl, rfl, rfl, rfl, rfl⟩ rfl rfl rfl rfl rfl (by kernel_rfl) Try.func3 (by kernel_rfl)
    (of_decide_eq_true (by kernel_rfl)) (by unfold Func.isWrapper; first | (rw [if_pos (by decide +kernel)]; kernel_rfl) | (rw [if_neg (by decide +kernel)]; exact ⟨rfl, rfl⟩))
    (fun os started H enc _ => lifted os started H enc)
theorem proved : Rows.CellMiddlesSaid := over
#print axioms proved
end Go.Proofs.Ythimbpoeoegehaa.cellMiddles
namespace Go.Proofs.Ythimbpoeoegehaa
/-- The row, under a short name, for the claim. -/
theorem cellMiddles_holds : Rows.CellMiddlesSaid := cellMiddles.proved
end Go.Proofs.Ythimbpoeoegehaa
