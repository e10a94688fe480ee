/- Pure: a run of glyphs moved by its pairs: the program's Shift and the reference's agree. -/
import Derived.Test.YthnojbbfmcapnaaPr20
import Derived.Test.YthnojbbfmcapnaaPr35
import Derived.Test.YthnojbbfmcapnaaPurePairs
namespace Go.Proofs.Ythnojbbfmcapnaa.Pure
set_option linter.unusedVariables false
set_option linter.unusedSimpArgs false
open Go.RowKit Go.Proofs.Ythnojbbfmcapnaa.Pr
open Go.Proofs.YthnojbbfmcapnaaW.PrintWords Go.Proofs.YthnojbbfmcapnaaW.PrintLast Go.Proofs.YthnojbbfmcapnaaW.PrintMore
theorem rd43_at (l : List S43) (i : Nat) (h : i < l.length) : rd_T43 l (i : Int) = l[i] := by unfold rd_T43; simp [List.getD, h]
/-- How far the i-th one is moved, where the one ahead of it was moved by m. -/
def mv (l : List S41) (p : List S43) (m : Int) (i : Nat) : Int := if 0 < i ∧ (rd_T43 p ((i : Int) - 1)).f2 = (rd_T43 p i).f2 then wrap64 (m + byD l (rd_T43 p ((i : Int) - 1)).f0 (rd_T43 p i).f0) else 0
def one43 (l : List S41) (p : List S43) (m : Int) (i : Nat) : S43 := ⟨(rd_T43 p i).f0, wrap64 ((rd_T43 p i).f1 + mv l p m i), (rd_T43 p i).f2⟩
def shV (l : List S41) (p : List S43) : Nat → List S43 → Int → List S43
  | 0, acc, _ => acc
  | n + 1, acc, m => shV l p n (acc ++ [one43 l p m acc.length]) (mv l p m acc.length)
theorem rshift_ev (l : List S41) (p : List S43) (hl : l.length ≤ 4096) (hp : p.length ≤ 4096) : Ev (fun k => pochoirref40_Shift.f k l p) (shV l p p.length [] 0) := by
  have key : ∀ (n i : Nat) (acc : List S43) (m : Int), acc.length = i → p.length - i = n → i ≤ p.length → Ev (fun k => pochoirref40_Shift.l0 k l p acc m i) (shV l p n acc m) := by
    intro n
    induction n with
    | zero =>
      intro i acc m h0 h1 h2
      exact one_ _ (fun k => by simp only [pochoirref40_Shift.l0]; rw [if_neg (by omega)]; rfl)
    | succ n ih =>
      intro i acc m h0 h1 h2
      have hi := ih (i + 1) (acc ++ [one43 l p m i]) (mv l p m i) (by simp [h0]) (by omega) (by omega)
      have w : wrap64 ((i : Int) + 1) = ((i + 1 : Nat) : Int) := wup (by omega)
      simp only [shV, h0]
      by_cases c0 : 0 < i
      · have w1 : wrap64 ((i : Int) - 1) = (i : Int) - 1 := wid (by omega) (by omega)
        by_cases c1 : (rd_T43 p ((i : Int) - 1)).f2 = (rd_T43 p i).f2
        · have em : mv l p m i = wrap64 (m + byD l (rd_T43 p ((i : Int) - 1)).f0 (rd_T43 p i).f0) := by unfold mv; rw [if_pos ⟨c0, c1⟩]
          refine Ev.step (fun k => by simp only [pochoirref40_Shift.l0]; rw [if_pos (by omega), if_pos (by omega), if_pos (by omega), w1, if_pos (by omega), if_pos (by omega), if_pos c1]) (Ev.bind (rby_ev l _ _ (by omega)) (pos_ (show acc.length < 5864062014805 by omega) ?_))
          rw [w, ← em]
          exact hi
        · have em : mv l p m i = 0 := by unfold mv; rw [if_neg (fun h => c1 h.2)]
          rw [em] at hi ⊢
          refine Ev.step (fun k => by simp only [pochoirref40_Shift.l0]; rw [if_pos (by omega), if_pos (by omega), if_pos (by omega), w1, if_pos (by omega), if_pos (by omega), if_neg c1, if_pos (by omega), w]; unfold one43 at *; rw [em]) hi
      · have em : mv l p m i = 0 := by unfold mv; rw [if_neg (fun h => c0 h.1)]
        rw [em] at hi ⊢
        refine Ev.step (fun k => ?_) hi
        simp only [pochoirref40_Shift.l0]
        rw [if_pos (by omega), if_pos (by omega), if_neg (by omega), if_pos (by omega), w]
        unfold one43
        rw [em]
  exact key p.length 0 [] 0 rfl (by omega) (by omega)
theorem shift_ev (l : List S41) (p : List S43) (hl : l.length ≤ 4096) (hp : p.length ≤ 4096) (okl : (l.all fun x => kern_Shift.ok x.f0 && kern_Shift.ok x.f1) = true) (okp : ∀ x ∈ p, kern_Shift.ok x.f0 = true) : Ev (fun k => kern_Shift.f k l p) (shV l p p.length [] 0) := by
  have okr : ∀ i : Nat, i < p.length → kern_Shift.ok (rd_T43 p i).f0 = true := fun i h => by rw [rd43_at p i h]; exact okp _ (List.getElem_mem h)
  have key : ∀ (n i : Nat) (acc : List S43) (m : Int), acc.length = i → p.length - i = n → i ≤ p.length → Ev (fun k => kern_Shift.l0 k l p (acc ++ p.drop i) m i) (shV l p n acc m) := by
    intro n
    induction n with
    | zero =>
      intro i acc m h0 h1 h2
      rw [List.drop_eq_nil_of_le (by omega), List.append_nil]
      exact one_ _ (fun k => by simp only [kern_Shift.l0]; rw [if_neg (by omega)]; rfl)
    | succ n ih =>
      intro i acc m h0 h1 h2
      have hi := ih (i + 1) (acc ++ [one43 l p m i]) (mv l p m i) (by simp [h0]) (by omega) (by omega)
      have w : wrap64 ((i : Int) + 1) = ((i + 1 : Nat) : Int) := wup (by omega)
      have hd : p.drop i = rd_T43 p i :: p.drop (i + 1) := by rw [rd43_at p i (by omega)]; exact List.drop_eq_getElem_cons (by omega)
      have ho : rd_T43 (acc ++ p.drop i) (i : Int) = rd_T43 p i := by
        rw [hd, rd43_at _ i (by simp; omega), List.getElem_append_right (by omega)]
        simp [h0]
      have hs : ∀ e : S43, (acc ++ p.drop i).set ((i : Int)).toNat e = acc ++ [e] ++ p.drop (i + 1) := fun e => by
        rw [hd, Int.toNat_natCast, List.set_append_right _ _ (by omega), h0, Nat.sub_self]
        simp
      simp only [shV, h0]
      by_cases c : (i : Int) > 0 ∧ (rd_T43 p (wrap64 ((i : Int) - 1))).f2 = (rd_T43 p i).f2
      · have w1 : wrap64 ((i : Int) - 1) = (i : Int) - 1 := wid (by omega) (by omega)
        have ok1 := okr (i - 1) (by omega)
        rw [show ((i - 1 : Nat) : Int) = (i : Int) - 1 by omega] at ok1
        have em : mv l p m i = wrap64 (m + byD l (rd_T43 p ((i : Int) - 1)).f0 (rd_T43 p i).f0) := by rw [w1] at c; unfold mv; rw [if_pos ⟨by omega, c.2⟩]
        refine Ev.step (fun k => ?_) hi
        simp only [kern_Shift.l0]
        rw [if_pos (by omega), if_pos (by omega), if_pos c, w1, if_pos ⟨by omega, by omega, ok1, okr i (by omega)⟩, ho, hs, w]
        unfold one43
        rw [em]
        rfl
      · have em : mv l p m i = 0 := by
          unfold mv
          by_cases c0 : 0 < i
          · have w1 : wrap64 ((i : Int) - 1) = (i : Int) - 1 := wid (by omega) (by omega)
            rw [w1] at c
            rw [if_neg (fun h => c ⟨by omega, h.2⟩)]
          · rw [if_neg (fun h => c0 h.1)]
        rw [em] at hi ⊢
        have w1 : (i : Int) > 0 → 0 ≤ wrap64 ((i : Int) - 1) ∧ wrap64 ((i : Int) - 1) < (p.length : Int) := fun h => by rw [wid (n := (i : Int) - 1) (by omega) (by omega)]; omega
        refine Ev.step (fun k => ?_) hi
        simp only [kern_Shift.l0]
        rw [if_pos (by omega), if_pos (by omega), if_neg c, if_pos w1, ho, hs, w]
        unfold one43
        rw [em]
  have h := key p.length 0 [] 0 rfl (by omega) (by omega)
  obtain ⟨K, hK⟩ := h
  refine ⟨K + l.length, fun k hk => ?_⟩
  show kern_Shift.f k l p = _
  unfold kern_Shift.f
  rw [if_pos ⟨by omega, by omega, okl⟩]
  exact hK k (by omega)
theorem shV_nil (p : List S43) (hp : ∀ x ∈ p, -9223372036854775808 ≤ x.f1 ∧ x.f1 ≤ 9223372036854775807) : ∀ (n : Nat) (acc : List S43), acc.length + n = p.length → shV [] p n acc 0 = acc ++ p.drop acc.length
  | 0, acc, h => by rw [List.drop_eq_nil_of_le (by omega), List.append_nil]; rfl
  | n + 1, acc, h => by
    have em : mv [] p 0 acc.length = 0 := by
      unfold mv
      split
      · exact wid (n := 0 + 0) (by decide) (by decide)
      · rfl
    have hd : p.drop acc.length = rd_T43 p acc.length :: p.drop (acc.length + 1) := by rw [rd43_at p _ (by omega)]; exact List.drop_eq_getElem_cons (by omega)
    have e1 : one43 [] p 0 acc.length = rd_T43 p acc.length := by
      unfold one43
      rw [em]
      have := hp (rd_T43 p acc.length) (by rw [rd43_at p _ (by omega)]; exact List.getElem_mem _)
      rw [wid (by omega) (by omega), Int.add_zero]
    simp only [shV]
    rw [em, e1, shV_nil p hp n _ (by simp; omega), hd]
    simp
theorem shV_len (l : List S41) (p : List S43) : ∀ (n : Nat) (acc : List S43) (m : Int), (shV l p n acc m).length = acc.length + n
  | 0, acc, m => rfl
  | n + 1, acc, m => by
    simp only [shV]
    rw [shV_len l p n]
    simp
    omega
theorem wfOk {n : Int} (h : (Lit.int .i64 n).wf = true) : -9223372036854775808 ≤ n ∧ n ≤ 9223372036854775807 := by
  simp [Lit.wf, IntKind.min, IntKind.max, IntKind.signed, IntKind.bits] at h
  omega
end Go.Proofs.Ythnojbbfmcapnaa.Pure
