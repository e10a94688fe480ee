/- Pure: the law KernShifts: what its walk computes is 'true'. -/
import Derived.Test.YthnojbbfmcapnaaPr20
import Derived.Test.YthnojbbfmcapnaaPr34
import Derived.Test.YthnojbbfmcapnaaPr35
import Derived.Test.YthnojbbfmcapnaaPr36
import Derived.Test.YthnojbbfmcapnaaAwake
import Derived.Test.YthnojbbfmcapnaaPureShift
namespace Go.Proofs.Ythnojbbfmcapnaa.Pure
set_option linter.unusedVariables false
set_option linter.unusedSimpArgs false
open Go.RowKit Go.Proofs.Ythnojbbfmcapnaa.Pr
open Go.Proofs.YthnojbbfmcapnaaW.PrintWords Go.Proofs.YthnojbbfmcapnaaW.PrintLast Go.Proofs.YthnojbbfmcapnaaW.PrintMore
theorem okOf {n : Int} (h : (Lit.int .i64 n).wf = true) : kern_Shift.ok n = true := by
  have := wfOk h
  unfold kern_Shift.ok
  exact decide_eq_true this
theorem kernShifts (l : List S41) (p : List S43) (hl : ∀ x ∈ l, (Lit.int .i64 x.f0).wf = true ∧ (Lit.int .i64 x.f1).wf = true) (hp : ∀ x ∈ p, (Lit.int .i64 x.f0).wf = true ∧ (Lit.int .i64 x.f1).wf = true) : ∃ k, pochoirlaw40_KernShifts.f k l p = some true := by
  have okl : (l.all fun x => kern_Shift.ok x.f0 && kern_Shift.ok x.f1) = true := by
    rw [List.all_eq_true]
    intro x hx
    rw [okOf (hl x hx).1, okOf (hl x hx).2]
    rfl
  have okp : ∀ x ∈ p, kern_Shift.ok x.f0 = true := fun x hx => okOf (hp x hx).1
  have hx1 : ∀ x ∈ p, -9223372036854775808 ≤ x.f1 ∧ x.f1 ≤ 9223372036854775807 := fun x hx => wfOk (hp x hx).2
  have jt : Ev (fun k => pochoirlaw40_KernShifts.j0 k l p true) true := one_ _ (fun k => by simp only [pochoirlaw40_KernShifts.j0, if_true])
  have h : Ev (fun k => pochoirlaw40_KernShifts.f k l p) true := by
    refine Ev.congr (g := fun k => pochoirlaw40_KernShifts.f k l p) (fun k => by unfold pochoirlaw40_KernShifts.f; rfl) (Ev.bind awake_ev ?_)
    simp only [if_true]
    by_cases h1 : (l.length : Int) > 100
    · exact pos_ h1 jt
    refine neg_ h1 ?_
    by_cases h2 : (p.length : Int) > 60
    · rw [decide_eq_true h2]
      exact jt
    rw [decide_eq_false h2]
    have last : Ev (fun k => (kern_Shift.f k l p).bind fun t305 => ((pochoirref40_Shift.f k l p).bind fun t308 => ((pochoirref33_Same.f k t305 t308).bind fun t311 => (if t311 = true then ((kern_Shift.f k ([] : List (S41)) p).bind fun t312 => ((pochoirref33_Same.f k t312 p).bind fun t315 => (some t315))) else (some false))))) true := by
      refine Ev.bind (shift_ev l p (by omega) (by omega) okl okp) (Ev.bind (rshift_ev l p (by omega) (by omega)) (Ev.bind (same43_self _ ?_) ?_))
      · rw [shV_len]
        simp
        omega
      simp only [if_true]
      have hs := shift_ev [] p (by simp) (by omega) rfl okp
      rw [shV_nil p hx1 p.length [] (by simp)] at hs
      exact Ev.bind hs (Ev.bind (same43_self p (by omega)) (Ev.now _))
    have l1 : ∀ (m i : Nat), p.length - i = m → i ≤ p.length → Ev (fun k => pochoirlaw40_KernShifts.l1 k l p p (p.length : Int) i) true := by
      intro m
      induction m with
      | zero =>
        intro i h3 h4
        exact Ev.step (fun k => by simp only [pochoirlaw40_KernShifts.l1]; rw [if_neg (by omega)]) last
      | succ m ih =>
        intro i h3 h4
        by_cases c1 : (rd_T43 p i).f1 > 1099511627776
        · exact one_ _ (fun k => by simp only [pochoirlaw40_KernShifts.l1]; rw [if_pos (by omega), if_pos (by omega), if_pos (by omega), if_pos c1])
        by_cases c2 : (rd_T43 p i).f1 < (-1099511627776)
        · exact one_ _ (fun k => by simp only [pochoirlaw40_KernShifts.l1]; rw [if_pos (by omega), if_pos (by omega), if_pos (by omega), if_neg c1, if_pos c2])
        refine Ev.step (fun k => ?_) (ih (i + 1) (by omega) (by omega))
        simp only [pochoirlaw40_KernShifts.l1]
        rw [if_pos (by omega), if_pos (by omega), if_pos (by omega), if_neg c1, if_neg c2, wup (by omega)]
    have l0 : ∀ (m i : Nat), l.length - i = m → i ≤ l.length → Ev (fun k => pochoirlaw40_KernShifts.l0 k l p l (l.length : Int) i) true := by
      intro m
      induction m with
      | zero =>
        intro i h3 h4
        exact Ev.step (fun k => by simp only [pochoirlaw40_KernShifts.l0]; rw [if_neg (by omega)]; rfl) (l1 p.length 0 rfl (by omega))
      | succ m ih =>
        intro i h3 h4
        by_cases c1 : (rd_T41 l i).f2 > 1099511627776
        · exact one_ _ (fun k => by simp only [pochoirlaw40_KernShifts.l0]; rw [if_pos (by omega), if_pos (by omega), if_pos (by omega), if_pos c1])
        by_cases c2 : (rd_T41 l i).f2 < (-1099511627776)
        · exact one_ _ (fun k => by simp only [pochoirlaw40_KernShifts.l0]; rw [if_pos (by omega), if_pos (by omega), if_pos (by omega), if_neg c1, if_pos c2])
        refine Ev.step (fun k => ?_) (ih (i + 1) (by omega) (by omega))
        simp only [pochoirlaw40_KernShifts.l0]
        rw [if_pos (by omega), if_pos (by omega), if_pos (by omega), if_neg c1, if_neg c2, wup (by omega)]
    exact Ev.step (fun k => by simp only [pochoirlaw40_KernShifts.j0]; rw [if_neg (by decide)]; rfl) (l0 l.length 0 rfl (by omega))
  obtain ⟨K, hK⟩ := h
  exact ⟨K, hK K (Nat.le_refl _)⟩
end Go.Proofs.Ythnojbbfmcapnaa.Pure
