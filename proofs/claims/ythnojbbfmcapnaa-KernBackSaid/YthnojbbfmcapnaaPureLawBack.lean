/- Pure: the law KernBack: what its walk computes is 'true'. -/
import Derived.Test.YthnojbbfmcapnaaPr28
import Derived.Test.YthnojbbfmcapnaaAwake
import Derived.Test.YthnojbbfmcapnaaPureParse
namespace Go.Proofs.Ythnojbbfmcapnaa.Pure
set_option linter.unusedVariables false
set_option linter.unusedSimpArgs false
open Go.RowKit Go.Proofs.Ythnojbbfmcapnaa.Pr
open Go.Proofs.YthnojbbfmcapnaaW.PrintWords Go.Proofs.YthnojbbfmcapnaaW.PrintLast Go.Proofs.YthnojbbfmcapnaaW.PrintMore
theorem kernBack (l : List S41) (g a b : Int) : ∃ k, pochoirlaw40_KernBack.f k l g a b = some true := by
  have h : Ev (fun k => pochoirlaw40_KernBack.f k l g a b) true := by
    refine Ev.congr (g := fun k => pochoirlaw40_KernBack.f k l g a b) (fun k => by unfold pochoirlaw40_KernBack.f; rfl) (Ev.bind awake_ev ?_)
    simp only [if_true]
    by_cases h1 : (l.length : Int) > 100
    · exact pos_ h1 (Ev.now _)
    refine neg_ h1 (Ev.bind (make_ev l (by omega)) (Ev.bind (rmake_ev l (by omega)) ?_))
    simp only [if_true]
    refine Ev.bind (may_ev g l (by omega)) (Ev.bind (rmay_ev g l (by omega)) ?_)
    refine neg_ (by simp) (Ev.bind (by_ev l a b (by omega)) (Ev.bind (rby_ev l a b (by omega)) ?_))
    have e : (byD l a b != byD l a b) = false := by simp
    rw [e]
    refine Ev.step (fun k => by simp only [pochoirlaw40_KernBack.j0]; rw [if_neg (by decide)]) ?_
    by_cases hm : mayB 1024 l = true
    · have z : (makeV l).2 = 0 := by unfold makeV; rw [if_pos hm]
      have hz : ((makeV l).1.size : Int) ≤ 9223372036854775807 := by
        unfold makeV
        rw [if_pos hm, encL_size, List.length_append, hdr_len, body_len]
        omega
      have hp := parse_ev 1024 (makeV l).1 hz
      rw [parse_make l hm] at hp
      refine pos_ z (Ev.bind hp ?_)
      simp only [if_true]
      exact Ev.bind (same_self l (by omega)) (Ev.now _)
    · have z : ¬ (makeV l).2 = 0 := by unfold makeV; rw [if_neg hm]; decide
      exact neg_ z (Ev.now _)
  obtain ⟨K, hK⟩ := h
  exact ⟨K, hK K (Nat.le_refl _)⟩
end Go.Proofs.Ythnojbbfmcapnaa.Pure
