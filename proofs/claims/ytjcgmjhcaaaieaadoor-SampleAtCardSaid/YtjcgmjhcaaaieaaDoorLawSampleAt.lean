/- PROVED: 'pochoirlaw32.SampleAt' returns true for every atlas, every glyph and every point, and its arguments read afterwards as they did. CONDITIONS: the table math/bits.deBruijn64tab reads as the program's own text lays it (the card ties it). -/
import Derived.Test.YtjcgmjhcaaaieaaDoorRows
import Derived.Test.YtjcgmjhcaaaieaaDoorCards
import Derived.Test.YtjcgmjhcaaaieaaDoorTie
import Derived.Test.YtjcgmjhcaaaieaaDoorPureLawAt
import Derived.Test.YtjcgmjhcaaaieaaDoorLaid
import Derived.Test.YtjcgmjhcaaaieaaDoorOpen
import Derived.SevenTiedAt
namespace Go.Proofs.YtjcgmjhcaaaieaaDoor.sampleAt
open Go.ChangeShapes Go.WideShapes Go.ChangeAt Go.RowKit
open Go.Proofs.YtjcgmjhcaaaieaaDoorW.PrintWords Go.Proofs.YtjcgmjhcaaaieaaDoorW.PrintLast
open Go.Proofs.YtjcgmjhcaaaieaaDoor.Pr Go.Proofs.YtjcgmjhcaaaieaaDoor.Open
set_option linter.unusedVariables false
theorem own : ownKnob Tryd.prog.godebug = none := by kernel_rfl
theorem laidOut : laidOutB Tryd.prog = true := by kernel_rfl
theorem opens50 : Opens Tryd.prog k50 50 (fun _ => True) :=
  Opens.imp (opens_struct Tryd.underlying50 (by kernel_rfl) (parts_iso (fun x : S50 => (x.f0, x.f1, x.f2, x.f3)) (fun y => ⟨y.1, y.2.1, y.2.2.1, y.2.2.2⟩) (fun _ => rfl) (parts_cons (opens_int Tryd.underlying3) rfl (by kernel_rfl) (parts_cons (opens_int Tryd.underlying3) rfl (by kernel_rfl) (parts_cons (opens_int Tryd.underlying3) rfl (by kernel_rfl) (parts_last (opens_int Tryd.underlying3) rfl (by kernel_rfl))))))) (fun _ _ => trivial)
theorem opens52 : Opens Tryd.prog k52 52 (fun _ => True) :=
  Opens.imp (opens_struct Tryd.underlying52 (by kernel_rfl) (parts_iso (fun x : S52 => (x.f0, x.f1, x.f2)) (fun y => ⟨y.1, y.2.1, y.2.2⟩) (fun _ => rfl) (parts_cons (opens_int Tryd.underlying3) rfl (by kernel_rfl) (parts_cons (opens_int Tryd.underlying3) rfl (by kernel_rfl) (parts_last (opens_int Tryd.underlying3) rfl (by kernel_rfl)))))) (fun _ _ => trivial)
theorem opens54 : Opens Tryd.prog k54 54 (fun _ => True) :=
  Opens.imp (opens_struct Tryd.underlying54 (by kernel_rfl) (parts_iso (fun x : S54 => (x.f0, x.f1, x.f2)) (fun y => ⟨y.1, y.2.1, y.2.2⟩) (fun _ => rfl) (parts_cons (opens_int Tryd.underlying3) rfl (by kernel_rfl) (parts_cons opens50 rfl (by kernel_rfl) (parts_last opens52 rfl (by kernel_rfl)))))) (fun _ _ => trivial)
theorem opens84 : Opens Tryd.prog k84 84 (fun _ => True) :=
  Opens.imp (opens_struct Tryd.underlying84 (by kernel_rfl) (parts_iso (fun x : S84 => (x.f0, x.f1)) (fun y => ⟨y.1, y.2⟩) (fun _ => rfl) (parts_cons (opens_int Tryd.underlying3) rfl (by kernel_rfl) (parts_last (opens_int Tryd.underlying3) rfl (by kernel_rfl))))) (fun _ _ => trivial)
abbrev ik : Kd Int := Kd.int .i64
abbrev k28 : Kd (Int × Int × Int × Int × Int × Int × (Int × Int) × List S54 × List S84 × List ByteArray) :=
  Kd.pair ik (Kd.pair ik (Kd.pair ik (Kd.pair ik (Kd.pair ik (Kd.pair ik (Kd.pair (Kd.pair ik ik) (Kd.pair (Kd.slice 54 k54) (Kd.pair (Kd.slice 84 k84) (Kd.slice 9 Kd.string)))))))))
theorem oi : Opens Tryd.prog ik 3 (fun _ => True) := Opens.imp (opens_int Tryd.underlying3) (fun _ _ => trivial)
theorem opens23 : Opens Tryd.prog (Kd.pair ik ik) 23 (fun _ => True) :=
  Opens.imp (opens_struct Tryd.underlying23 (by kernel_rfl) (parts_cons oi rfl (by kernel_rfl) (parts_last oi rfl (by kernel_rfl)))) (fun _ _ => trivial)
theorem opens28 : Opens Tryd.prog k28 28 (fun x => x.2.2.2.2.2.2.2.2.2.length ≤ maxLen) :=
  Opens.imp (opens_struct Tryd.underlying28 (by kernel_rfl)
    (parts_cons oi rfl (by kernel_rfl) (parts_cons oi rfl (by kernel_rfl) (parts_cons oi rfl (by kernel_rfl) (parts_cons oi rfl (by kernel_rfl) (parts_cons oi rfl (by kernel_rfl) (parts_cons oi rfl (by kernel_rfl)
      (parts_cons opens23 rfl (by kernel_rfl) (parts_cons (opens_slice Tryd.underlying24 (by kernel_rfl) opens54) rfl (by kernel_rfl) (parts_cons (opens_slice Tryd.underlying25 (by kernel_rfl) opens84) rfl (by kernel_rfl)
        (parts_last (opens_slice Tryd.underlying26 (by kernel_rfl) (opens_string Tryd.underlying9)) rfl (by kernel_rfl))))))))))))
    (fun _ h => h.2.2.2.2.2.2.2.2.2.1)
set_option maxRecDepth 100000 in
theorem lifted (os : Os) (started : os.Started) (H : Type) (enc : TypeId × Value → H) :
    ReturnsInHanded {} Tryd.checked os 3 .any (fun w args => (Rows.sampleAtSpec.pre enc Tryd.prog Tryd.f3 [] false w args ∧ laidMetH Tryd.prog laidList w) ∧ sizedMet enc Tryd.prog Tryd.f3 (OpenSpec.ofChange Rows.sampleAtSpec) false w args) (Rows.sampleAtSpec.post enc Tryd.prog Tryd.f3 false true false false) := by
  refine returnsInHanded_of_change_and (C := Tryd.checked) (X := fun w _ => laidMetH Tryd.prog laidList w) (fun _ _ _ hh h => h.of_heap hh) own started (by kernel_rfl) Tryd.func3
    (ChangeSpec.witness_at (enc := enc) (C := Tryd.checked) (os := os) (X := fun w _ => laidMetH Tryd.prog laidList w) false (laidWorld os) #[.agg #[.int .i64 0, .int .i64 0, .int .i64 0, .int .i64 0, .int .i64 0, .int .i64 0, .int .i64 0, .int .i64 0, .slice none 0 0, .slice none 0 0, .slice none 0 0], .agg #[.int .i64 0, .int .i64 0, .int .i64 0]] 8 rfl (by kernel_rfl) (by kernel_rfl) (by kernel_rfl) (by kernel_rfl) (by kernel_rfl) (laidWorld_met os _)) ?_
  intro W base args ds gs before hval0 hW hcnd hsz0 hL _
  have hval : ∀ (j : Nat) t v, Tryd.f3.params[j]? = some t → args[j]? = some v → Value.okWide Tryd.prog W .any base t v := hval0
  have hW' := hW
  obtain ⟨p, q, hA0, hV, rfl, hfz, hnd⟩ := hW
  have hA : DataW.TrodAll enc Tryd.prog W 0 (fun _ => true) true Tryd.f3.params.toList args.toList ds p := hA0
  rw [Tryd.params3] at hA hval
  obtain ⟨v0, vs0, d0, ds0, p0, q0, hargs, rfl, rfl, h0, r0⟩ := trodAll_cons hA
  obtain ⟨v1, vs1, d1, ds1, p1, q1, rfl, rfl, rfl, h1, r1⟩ := trodAll_cons r0
  obtain ⟨rfl, rfl, rfl⟩ := trodAll_nil r1
  obtain rfl : args = #[v0, v1] := by cases args; simp_all
  obtain ⟨rfl, rfl⟩ := trodVars_none hV
  obtain ⟨cs0, rfl⟩ := okWide_agg (.inl ⟨_, Tryd.underlying28⟩) (hval 0 28 v0 rfl rfl)
  have k0 := h0
  have lt0 : ∀ x ∈ p0, x.block < W.heap.size := by obtain ⟨m, hm⟩ := k0; exact DataW.trod_lt m _ _ _ hm
  obtain ⟨fuel0, hf0⟩ := h0
  obtain ⟨⟨e0, e1, e2, e3, e4, e5, ⟨e6, e7⟩, l8, l9, l10⟩, hx, hlen⟩ := opens28.of hf0
  obtain ⟨_, _, hc, rfl, _, _, rfl, rfl, _, _, rfl, rfl, _, _, rfl, rfl, _, _, rfl, rfl, _, _, rfl, rfl, _, _, rfl, ⟨_, _, rfl, rfl, rfl⟩, _, _, rfl, ⟨A8, c8, rfl, hl8, hC8⟩, _, _, rfl, ⟨A9, c9, rfl, hl9, hC9⟩, A10, c10, rfl, hl10, hC10⟩ := hx
  obtain rfl : cs0 = #[.int .i64 e0, .int .i64 e1, .int .i64 e2, .int .i64 e3, .int .i64 e4, .int .i64 e5, .int .i64 e6, .int .i64 e7, .slice A8 l8.length c8, .slice A9 l9.length c9, .slice A10 l10.length c10] := by
    have : cs0.toList = _ := hc
    rw [← Array.toArray_toList (xs := cs0), this]
    rfl
  obtain ⟨cs1, rfl⟩ := okWide_agg (.inr ⟨_, _, Tryd.underlying29⟩) (hval 1 29 v1 rfl rfl)
  have k1 := h1
  have lt1 : ∀ x ∈ p1, x.block < W.heap.size := by obtain ⟨m, hm⟩ := k1; exact DataW.trod_lt m _ _ _ hm
  obtain ⟨fuel1, hf1⟩ := h1
  obtain ⟨x1, hl1, hx1, _⟩ := open_array Tryd.underlying29 Tryd.underlying3 (by kernel_rfl) (by kernel_rfl) hf1
  obtain ⟨n0, n1, n2, rfl⟩ : ∃ n0 n1 n2, x1 = [n0, n1, n2] := by
    match x1, hl1 with
    | [n0, n1, n2], _ => exact ⟨n0, n1, n2, rfl⟩
  obtain rfl : cs1 = #[.int .i64 n0, .int .i64 n1, .int .i64 n2] := by
    have : cs1.toList = _ := hx1
    rw [← Array.toArray_toList (xs := cs1), this]
    rfl
  clear hA0 hval0 hsz0
  obtain ⟨k, hk⟩ := Pure.lawAt e0 e1 e2 e3 e4 e5 e6 e7 l8 l9 l10 n0 n1 n2 (by have hlen' : l10.length ≤ maxLen := hlen; simp only [maxLen] at hlen'; omega)
  refine (pochoirlaw32_SampleAt.calls k e0 e1 e2 e3 e4 e5 e6 e7 A8 c8 l8 A9 c9 l9 A10 c10 l10 n0 n1 n2 true W hC8 hl8 hC9 hl9 hC10 hl10 hk (hasTab_of_laid hL)).mono fun e W' ⟨he, bel⟩ => ?_
  subst he
  exact ⟨_, rfl, _, _, _, [], _, [], hW', trodAll_mk1 (shut_bool Tryd.underlying4 _), (trodAll_cons_mk (Below.trod laidOut (by kernel_rfl) (of_decide_eq_true (by kernel_rfl)) k0 bel lt0) (trodAll_cons_mk (Below.trod laidOut (by kernel_rfl) (of_decide_eq_true (by kernel_rfl)) k1 bel lt1) trodAll_mk0)), rfl, bel.frame _, fun h => by cases h⟩
theorem over : Rows.sampleAtRow.holds Tryd.pinned (OpenSpec.ofChange Rows.sampleAtSpec) :=
  OpenClaim.holds_of_wide 3 Tryd.f3 rfl rfl rfl rfl rfl rfl rfl ⟨rfl, rfl, rfl, rfl, rfl⟩ rfl rfl rfl rfl rfl (by kernel_rfl) Tryd.func3 (by kernel_rfl)
    (of_decide_eq_true (by kernel_rfl)) (by unfold Func.isWrapper; first | (rw [if_pos (by decide +kernel)]; kernel_rfl) | (rw [if_neg (by decide +kernel)]; exact ⟨rfl, rfl⟩))
    (fun os started H enc _ => lifted os started H enc)
theorem row : Rows.SampleAtSaid := over
theorem proved : Rows.SampleAtCardSaid :=
  Claim7.holds_tied_plain_at .later [] [.data] true (true, "6d2d13b8f62c8d3ca8e87a4fc2a13c40194ff057fa1ba37ebd29d05f0150fe12") false
    row (fun _ h => by cases h) (by kernel_rfl) (fun _ h => by cases h) sampleAt_row_tie rfl ⟨rfl, rfl⟩ (by kernel_rfl) rfl
    (fun f fn hf hfn => by
      obtain rfl : f = 3 := Option.some.inj ((show Tryd.prog.funcNamed "pochoir/pochoirlaw32.SampleAt" = some 3 by kernel_rfl).symm.trans hf) |>.symm
      obtain rfl : fn = Tryd.f3 := (Option.some.inj (Tryd.func3.symm.trans hfn)).symm
      exact ⟨by kernel_rfl, fun j t ht => by
        rw [Tryd.params3] at ht
        rcases j with _ | _ | j
        · obtain rfl : 28 = t := by simpa using ht
          exact (show Tryd.prog.wantsStandIn 28 = false by kernel_rfl)
        · obtain rfl : 29 = t := by simpa using ht
          exact (show Tryd.prog.wantsStandIn 29 = false by kernel_rfl)
        · simp at ht⟩)
    (by kernel_rfl)
#print axioms proved
end Go.Proofs.YtjcgmjhcaaaieaaDoor.sampleAt
namespace Go.Proofs.YtjcgmjhcaaaieaaDoor
/-- The card, under a short name, for the claim. -/
theorem sampleAt_holds : Rows.SampleAtCardSaid := sampleAt.proved
end Go.Proofs.YtjcgmjhcaaaieaaDoor
