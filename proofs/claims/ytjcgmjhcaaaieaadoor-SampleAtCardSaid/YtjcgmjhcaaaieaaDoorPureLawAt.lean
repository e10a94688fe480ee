/- Pure: what SampleAt reckons is true. -/
import Derived.Test.YtjcgmjhcaaaieaaDoorPr14
import Derived.Test.YtjcgmjhcaaaieaaDoorPr29
import Derived.Test.YtjcgmjhcaaaieaaDoorPr30
import Derived.Test.YtjcgmjhcaaaieaaDoorPr37
import Derived.Test.YtjcgmjhcaaaieaaDoorPr39
import Derived.Test.YtjcgmjhcaaaieaaDoorPureAt
namespace Go.Proofs.YtjcgmjhcaaaieaaDoor.Pure
set_option linter.unusedVariables false
set_option linter.unusedSimpArgs false
open Go.RowKit Go.Proofs.YtjcgmjhcaaaieaaDoor.Pr
open Go.Proofs.YtjcgmjhcaaaieaaDoorW.PrintWords Go.Proofs.YtjcgmjhcaaaieaaDoorW.PrintLast Go.Proofs.YtjcgmjhcaaaieaaDoorW.PrintMore
theorem wrap_up2 {i : Nat} (h : (i : Int) < 9223372036854775807) : wrap64 ((i : Int) + 1) = ((i + 1 : Nat) : Int) := by unfold wrap64; omega
theorem few_loop (a0 a1 a2 a3 a4 a5 W H : Int) (gs : List S54) (ps : List S84) (pages : List ByteArray) (hl : (pages.length : Int) ≤ 9223372036854775807) : ∀ (m i k : Nat), pages.length - i ≤ m → i ≤ pages.length → m < k →
    ∃ b, pochoirlaw30_Few.l0 k pages (pages.length : Int) i a0 a1 a2 a3 a4 a5 W H gs ps pages = some b := by
  intro m
  have fin : ∀ (i k : Nat), pages.length ≤ i → ∃ b, pochoirlaw30_Few.l0 (k + 1) pages (pages.length : Int) i a0 a1 a2 a3 a4 a5 W H gs ps pages = some b := by
    intro i k h
    simp only [pochoirlaw30_Few.l0]
    rw [if_neg (by omega)]
    split
    · split
      · exact ⟨_, rfl⟩
      · exact ⟨_, rfl⟩
    · exact ⟨_, rfl⟩
  induction m with
  | zero =>
    intro i k h1 h2 h3
    obtain ⟨k, rfl⟩ : ∃ j, k = j + 1 := ⟨k - 1, by omega⟩
    exact fin i k (by omega)
  | succ m ih =>
    intro i k h1 h2 h3
    obtain ⟨k, rfl⟩ : ∃ j, k = j + 1 := ⟨k - 1, by omega⟩
    by_cases hi : i < pages.length
    · have hp : (i : Int) < (pages.length : Int) := by omega
      have h0 : (0 : Int) ≤ (i : Int) := by omega
      simp only [pochoirlaw30_Few.l0, if_pos hp, if_pos h0]
      split
      · exact ⟨_, rfl⟩
      · rw [wrap_up2 (by omega)]
        exact ih (i + 1) k (by omega) (by omega) (by omega)
    · exact fin i k (by omega)
theorem few_of (a0 a1 a2 a3 a4 a5 W H : Int) (gs : List S54) (ps : List S84) (pages : List ByteArray) (hl : (pages.length : Int) ≤ 9223372036854775807) : ∃ k b, pochoirlaw30_Few.f k a0 a1 a2 a3 a4 a5 W H gs ps pages = some b := by
  obtain ⟨b, h⟩ := few_loop a0 a1 a2 a3 a4 a5 W H gs ps pages hl pages.length 0 (pages.length + 1) (by omega) (by omega) (by omega)
  exact ⟨_, b, h⟩
set_option maxRecDepth 100000 in
theorem awakeAt : ∃ k, pochoirlaw32_awake.f k = some true := ⟨40, by decide +kernel⟩
theorem lawAt (a0 a1 a2 a3 a4 a5 W H : Int) (gs : List S54) (ps : List S84) (pages : List ByteArray) (n x y : Int) (hl : (pages.length : Int) ≤ 9223372036854775807) : ∃ k, pochoirlaw32_SampleAt.f k a0 a1 a2 a3 a4 a5 W H gs ps pages n x y = some true := by
  obtain ⟨k1, h1⟩ := awakeAt
  obtain ⟨k2, b, h2⟩ := few_of a0 a1 a2 a3 a4 a5 W H gs ps pages hl
  obtain ⟨k3, r0, r1, r2, r3, e, h3, h4, b0, b1, b2, b3, _, _⟩ := at_of a0 a1 a2 a3 a4 a5 W H gs ps pages n x y
  obtain ⟨d, h5, h6⟩ := median_of (a := r0) b1 b2 b3
  suffices hg : pochoirlaw32_SampleAt.g (k1 + k2 + k3) a0 a1 a2 a3 a4 a5 W H gs ps pages n x y = some true from ⟨k1 + k2 + k3, by unfold pochoirlaw32_SampleAt.f; rw [hg]; rfl⟩
  unfold pochoirlaw32_SampleAt.g
  rw [upM pochoirlaw32_awake.mono h1 (by omega : k1 ≤ k1 + k2 + k3), Option.bind_some, if_pos rfl, upM (fun k => pochoirlaw30_Few.mono _ _ _ _ _ _ _ _ _ _ _ k) h2 (by omega : k2 ≤ k1 + k2 + k3), Option.bind_some]
  cases b with
  | false => rfl
  | true =>
    rw [if_pos rfl, upM (fun k => sample_At.mono _ _ _ _ _ _ _ _ _ _ _ _ _ _ k) h3 (by omega : k3 ≤ k1 + k2 + k3), Option.bind_some, upM (fun k => pochoirref32_At.mono _ _ _ _ _ _ _ _ _ _ _ _ _ _ k) h4 (by omega : k3 ≤ k1 + k2 + k3), Option.bind_some]
    simp only [if_true, h5, h6, Option.bind_some, beq_self_eq_true]
end Go.Proofs.YtjcgmjhcaaaieaaDoor.Pure
