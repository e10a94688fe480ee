/- PROVED: 'pochoirlaw32.SampleCovers' returns true for every two numbers, every reach and every scale, and its arguments read afterwards as they did. CONDITIONS: the table math/bits.deBruijn64tab reads as the program's own text lays it (the card ties it). -/
import Derived.Test.YtjcgmjhcaaaieaaDoorPr32
import Derived.Test.YtjcgmjhcaaaieaaDoorRows
import Derived.Test.YtjcgmjhcaaaieaaDoorCards
import Derived.Test.YtjcgmjhcaaaieaaDoorTie
import Derived.Test.YtjcgmjhcaaaieaaDoorPureCovers
import Derived.Test.YtjcgmjhcaaaieaaDoorLaid
import Derived.Test.YtjcgmjhcaaaieaaDoorOpen
import Derived.SevenTiedAt
namespace Go.Proofs.YtjcgmjhcaaaieaaDoor.sampleCovers
set_option linter.unusedVariables false
set_option linter.unusedSimpArgs false
open Go.ChangeShapes Go.WideShapes Go.ChangeAt Go.RowKit
open Go.Proofs.YtjcgmjhcaaaieaaDoorW.PrintWords Go.Proofs.YtjcgmjhcaaaieaaDoorW.PrintLast
open Go.Proofs.YtjcgmjhcaaaieaaDoor.Pr Go.Proofs.YtjcgmjhcaaaieaaDoor.Open
set_option linter.unusedVariables false
theorem own : ownKnob Tryd.prog.godebug = none := by kernel_rfl
theorem laidOut : laidOutB Tryd.prog = true := by kernel_rfl
abbrev k42 : Kd (Int × Int) := Kd.pair (Kd.int .i64) (Kd.int .i64)
theorem opens42 : Opens Tryd.prog k42 42 (fun x => (Lit.int .i64 x.1).wf = true ∧ (Lit.int .i64 x.2).wf = true) :=
  opens_struct Tryd.underlying42 (by kernel_rfl) (parts_cons (opens_int Tryd.underlying2) rfl (by kernel_rfl) (parts_last (opens_int Tryd.underlying2) rfl (by kernel_rfl)))
set_option maxRecDepth 100000 in
theorem lifted (os : Os) (started : os.Started) (H : Type) (enc : TypeId × Value → H) :
    ReturnsInHanded {} Tryd.checked os 4 .any (fun w args => (Rows.sampleCoversSpec.pre enc Tryd.prog Tryd.f4 [] false w args ∧ laidMetH Tryd.prog laidList w) ∧ sizedMet enc Tryd.prog Tryd.f4 (OpenSpec.ofChange Rows.sampleCoversSpec) false w args) (Rows.sampleCoversSpec.post enc Tryd.prog Tryd.f4 false true false false) := by
  refine returnsInHanded_of_change_and (C := Tryd.checked) (X := fun w _ => laidMetH Tryd.prog laidList w) (fun _ _ _ hh h => h.of_heap hh) own started (by kernel_rfl) Tryd.func4
    (ChangeSpec.witness_at (enc := enc) (C := Tryd.checked) (os := os) (X := fun w _ => laidMetH Tryd.prog laidList w) false (laidWorld os) #[.agg #[.int .i64 0, .int .i64 0], .int .i64 0, .agg #[.int .i64 0, .int .i64 0]] 8 rfl (by kernel_rfl) (by kernel_rfl) (by kernel_rfl) (by kernel_rfl) (by kernel_rfl) (laidWorld_met os _)) ?_
  intro W base args ds gs before hval0 hW hcnd hsz0 hL _
  have hval : ∀ (j : Nat) t v, Tryd.f4.params[j]? = some t → args[j]? = some v → Value.okWide Tryd.prog W .any base t v := hval0
  have hW' := hW
  obtain ⟨p, q, hA0, hV, rfl, hfz, hnd⟩ := hW
  have hA : DataW.TrodAll enc Tryd.prog W 0 (fun _ => true) true Tryd.f4.params.toList args.toList ds p := hA0
  rw [Tryd.params4] at hA hval
  obtain ⟨v0, vs0, d0, ds0, p0, q0, hargs, rfl, rfl, h0, r0⟩ := trodAll_cons hA
  obtain ⟨v1, vs1, d1, ds1, p1, q1, rfl, rfl, rfl, h1, r1⟩ := trodAll_cons r0
  obtain ⟨v2, vs2, d2, ds2, p2, q2, rfl, rfl, rfl, h2, r2⟩ := trodAll_cons r1
  obtain ⟨rfl, rfl, rfl⟩ := trodAll_nil r2
  obtain rfl : args = #[v0, v1, v2] := by cases args; simp_all
  obtain ⟨rfl, rfl⟩ := trodVars_none hV
  obtain ⟨cs0, rfl⟩ := okWide_agg (.inr ⟨_, _, Tryd.underlying40⟩) (hval 0 40 v0 rfl rfl)
  have k0 := h0
  have lt0 : ∀ x ∈ p0, x.block < W.heap.size := by obtain ⟨m, hm⟩ := k0; exact DataW.trod_lt m _ _ _ hm
  obtain ⟨fuel0, hf0⟩ := h0
  obtain ⟨x0, hl0, hx0, _⟩ := open_array Tryd.underlying40 Tryd.underlying3 (by kernel_rfl) (by kernel_rfl) hf0
  obtain ⟨n0, n1, rfl⟩ : ∃ n0 n1, x0 = [n0, n1] := by
    match x0, hl0 with
    | [n0, n1], _ => exact ⟨n0, n1, rfl⟩
  obtain rfl : cs0 = #[.int .i64 n0, .int .i64 n1] := by
    have : cs0.toList = _ := hx0
    rw [← Array.toArray_toList (xs := cs0), this]
    rfl
  obtain ⟨a1, rfl, rfl, rfl, w1⟩ := open_int Tryd.underlying3 (hval 1 3 v1 rfl rfl) h1
  obtain ⟨cs2, rfl⟩ := okWide_agg (.inl ⟨_, Tryd.underlying42⟩) (hval 2 42 v2 rfl rfl)
  have k2 := h2
  have lt2 : ∀ x ∈ p2, x.block < W.heap.size := by obtain ⟨m, hm⟩ := k2; exact DataW.trod_lt m _ _ _ hm
  obtain ⟨fuel2, hf2⟩ := h2
  obtain ⟨⟨s0, s1⟩, hx2, g0, g1⟩ := opens42.of hf2
  obtain rfl : cs2 = #[.int .i64 s0, .int .i64 s1] := by
    obtain ⟨_, _, e, rfl, rfl⟩ := hx2
    have : cs2.toList = _ := e
    rw [← Array.toArray_toList (xs := cs2), this]
    rfl
  clear hA0 hval0 hsz0
  obtain ⟨k, hk⟩ := Pure.law n0 n1 a1 s0 s1 g0 g1
  refine (pochoirlaw32_SampleCovers.calls k n0 n1 a1 s0 s1 true W hk (hasTab_of_laid hL)).mono fun e W' ⟨he, bel⟩ => ?_
  subst he
  exact ⟨_, rfl, _, _, _, [], _, [], hW', trodAll_mk1 (shut_bool Tryd.underlying4 _), (trodAll_cons_mk (Below.trod laidOut (by kernel_rfl) (of_decide_eq_true (by kernel_rfl)) k0 bel lt0) (trodAll_cons_mk (shut_int Tryd.underlying3 w1) (trodAll_cons_mk (Below.trod laidOut (by kernel_rfl) (of_decide_eq_true (by kernel_rfl)) k2 bel lt2) trodAll_mk0))), rfl, bel.frame _, fun h => by cases h⟩
theorem over : Rows.sampleCoversRow.holds Tryd.pinned (OpenSpec.ofChange Rows.sampleCoversSpec) :=
  OpenClaim.holds_of_wide 4 Tryd.f4 rfl rfl rfl rfl rfl rfl rfl ⟨rfl, rfl, rfl, rfl, rfl⟩ rfl rfl rfl rfl rfl (by kernel_rfl) Tryd.func4 (by kernel_rfl)
    (of_decide_eq_true (by kernel_rfl)) (by unfold Func.isWrapper; first | (rw [if_pos (by decide +kernel)]; kernel_rfl) | (rw [if_neg (by decide +kernel)]; exact ⟨rfl, rfl⟩))
    (fun os started H enc _ => lifted os started H enc)
theorem row : Rows.SampleCoversSaid := over
theorem proved : Rows.SampleCoversCardSaid :=
  Claim7.holds_tied_plain_at .later [] [.data] true (true, "6d2d13b8f62c8d3ca8e87a4fc2a13c40194ff057fa1ba37ebd29d05f0150fe12") false
    row (fun _ h => by cases h) (by kernel_rfl) (fun _ h => by cases h) sampleCovers_row_tie rfl ⟨rfl, rfl⟩ (by kernel_rfl) rfl
    (fun f fn hf hfn => by
      obtain rfl : f = 4 := Option.some.inj ((show Tryd.prog.funcNamed "pochoir/pochoirlaw32.SampleCovers" = some 4 by kernel_rfl).symm.trans hf) |>.symm
      obtain rfl : fn = Tryd.f4 := (Option.some.inj (Tryd.func4.symm.trans hfn)).symm
      exact ⟨by kernel_rfl, fun j t ht => by
        rw [Tryd.params4] at ht
        rcases j with _ | _ | _ | j
        · obtain rfl : 40 = t := by simpa using ht
          exact (show Tryd.prog.wantsStandIn 40 = false by kernel_rfl)
        · obtain rfl : 3 = t := by simpa using ht
          exact (show Tryd.prog.wantsStandIn 3 = false by kernel_rfl)
        · obtain rfl : 42 = t := by simpa using ht
          exact (show Tryd.prog.wantsStandIn 42 = false by kernel_rfl)
        · simp at ht⟩)
    (by kernel_rfl)
#print axioms proved
end Go.Proofs.YtjcgmjhcaaaieaaDoor.sampleCovers
namespace Go.Proofs.YtjcgmjhcaaaieaaDoor
/-- The card, under a short name, for the claim. -/
theorem sampleCovers_holds : Rows.SampleCoversCardSaid := sampleCovers.proved
end Go.Proofs.YtjcgmjhcaaaieaaDoor
