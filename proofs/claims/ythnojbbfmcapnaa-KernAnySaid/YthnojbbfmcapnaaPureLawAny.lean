/- Pure: the law KernAny: what its walk computes is 'true'. -/
import Derived.Test.YthnojbbfmcapnaaPr33
import Derived.Test.YthnojbbfmcapnaaAwake
import Derived.Test.YthnojbbfmcapnaaPureParse
namespace Go.Proofs.Ythnojbbfmcapnaa.Pure
set_option linter.unusedVariables false
set_option linter.unusedSimpArgs false
open Go.RowKit Go.Proofs.Ythnojbbfmcapnaa.Pr
open Go.Proofs.YthnojbbfmcapnaaW.PrintWords Go.Proofs.YthnojbbfmcapnaaW.PrintLast Go.Proofs.YthnojbbfmcapnaaW.PrintMore
theorem kernAny : pochoirlaw40_KernAny.Pure := by
  intro s g hs _
  have h : Ev (fun k => pochoirlaw40_KernAny.f k s g) true := by
    refine Ev.congr (g := fun k => pochoirlaw40_KernAny.f k s g) (fun k => by unfold pochoirlaw40_KernAny.f; rfl) (Ev.bind awake_ev ?_)
    simp only [if_true]
    by_cases h1 : (s.size : Int) > 700
    · exact pos_ h1 (Ev.now _)
    refine neg_ h1 (Ev.bind (parse_ev g s (by omega)) (Ev.bind (rparse_ev g s (by omega)) ?_))
    by_cases h2 : (parseV g s).1.length ≤ 9223372036854775807
    · refine Ev.bind (same_self _ h2) ?_
      simp only [if_true]
      by_cases h3 : (parseV g s).2 = 0
      · refine pos_ h3 ?_
        refine Ev.bind (may_ev g _ h2) ?_
        rw [parse_may g s h3]
        exact Ev.now _
      · exact neg_ h3 (Ev.now _)
    · exact absurd (parse_len g s) h2
  obtain ⟨K, hK⟩ := h
  exact ⟨K, hK K (Nat.le_refl _)⟩
end Go.Proofs.Ythnojbbfmcapnaa.Pure
