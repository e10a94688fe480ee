/- Pure: pairs: which may be, what two are moved by, whether two lists are the same: the program and the reference agree. -/
import Derived.Test.YthnojbbfmcapnaaPr3
import Derived.Test.YthnojbbfmcapnaaPr4
import Derived.Test.YthnojbbfmcapnaaPr5
import Derived.Test.YthnojbbfmcapnaaPr6
import Derived.Test.YthnojbbfmcapnaaPr14
import Derived.Test.YthnojbbfmcapnaaPr20
import Derived.Test.YthnojbbfmcapnaaPr22
import Derived.Test.YthnojbbfmcapnaaPr23
import Derived.Test.YthnojbbfmcapnaaPr26
import Derived.Test.YthnojbbfmcapnaaPr27
import Derived.Test.YthnojbbfmcapnaaPr34
import Derived.Test.YthnojbbfmcapnaaPureOct
namespace Go.Proofs.Ythnojbbfmcapnaa.Pure
set_option linter.unusedVariables false
set_option linter.unusedSimpArgs false
open Go.RowKit Go.Proofs.Ythnojbbfmcapnaa.Pr
open Go.Proofs.YthnojbbfmcapnaaW.PrintWords Go.Proofs.YthnojbbfmcapnaaW.PrintLast Go.Proofs.YthnojbbfmcapnaaW.PrintMore
theorem wup {i : Nat} (h : (i : Int) < 9223372036854775807) : wrap64 ((i : Int) + 1) = ((i + 1 : Nat) : Int) := by unfold wrap64; omega
theorem one_ {α : Type} {g : Nat → Option α} (r : α) (h : ∀ k, g (k + 1) = some r) : Ev g r := Ev.step (f := fun _ => some r) h (Ev.now r)
theorem all_ {α : Type} {g : Nat → Option α} (r : α) (h : ∀ k, g k = some r) : Ev g r := ⟨0, fun k _ => h k⟩
theorem pos_ {α : Type} {c : Prop} [Decidable c] {f g : Nat → Option α} {r : α} (h : c) (e : Ev f r) : Ev (fun k => if c then f k else g k) r := by simp only [if_pos h]; exact e
theorem neg_ {α : Type} {c : Prop} [Decidable c] {f g : Nat → Option α} {r : α} (h : ¬ c) (e : Ev g r) : Ev (fun k => if c then f k else g k) r := by simp only [if_neg h]; exact e
theorem mn_def (a b : Int) : (mn a b < 0) ↔ (a < 0 ∨ b < 0) := by unfold mn; split <;> omega
theorem mx_def (a b c : Int) : (mx a b ≥ c) ↔ (a ≥ c ∨ b ≥ c) := by unfold mx; split <;> omega
/-- Does the first pair stand ahead of the second one? -/
def lt (a b : S41) : Bool := decide (a.f0 < b.f0 ∨ a.f0 = b.f0 ∧ a.f1 < b.f1)
theorem or2 (a b : Int) : Ev (fun k => cmp_Or_int.f k [a, b]) (if a = 0 then b else a) := by
  refine Ev.congr (g := fun k => cmp_Or_int.f k [a, b]) (f := fun k => cmp_Or_int.l0 k 0 [a, b] 2 0) (fun k => rfl) ?_
  by_cases h : a = 0
  · rw [if_pos h]
    refine Ev.step (f := fun k => cmp_Or_int.l0 k 0 [a, b] 2 1) (fun k => ?_) ?_
    · simp only [cmp_Or_int.l0]
      rw [if_pos (by omega), if_pos (by omega), if_pos (by simp), if_pos (by simpa [rd] using h), show wrap64 (0 + 1) = 1 from wid (by omega) (by omega)]
    by_cases h' : b = 0
    · refine Ev.step (f := fun k => cmp_Or_int.l0 k 0 [a, b] 2 2) (fun k => ?_) (Ev.step (fun k => by simp only [cmp_Or_int.l0]; rw [if_neg (by omega)]) (by rw [h']; exact Ev.now _))
      simp only [cmp_Or_int.l0]
      rw [if_pos (by omega), if_pos (by omega), if_pos (by simp), if_pos (by simpa [rd] using h'), show wrap64 (1 + 1) = 2 from wid (by omega) (by omega)]
    · refine Ev.step (fun k => ?_) (Ev.now b)
      simp only [cmp_Or_int.l0]
      rw [if_pos (by omega), if_pos (by omega), if_pos (by simp), if_neg (by simpa [rd] using h')]
      simp [rd]
  · rw [if_neg h]
    refine Ev.step (fun k => ?_) (Ev.now a)
    simp only [cmp_Or_int.l0]
    rw [if_pos (by omega), if_pos (by omega), if_pos (by simp), if_neg (by simpa [rd] using h)]
    simp [rd]
def cmpI (a b : Int) : Int := if a < b then -1 else if a > b then 1 else 0
theorem cmp_i (a b : Int) : cmp_Compare_int.f a b = some (cmpI a b) := by
  unfold cmp_Compare_int.f cmp_isNaN_int.f cmpI
  simp
  split <;> (try rfl)
  split <;> rfl
theorem compare_ev (a b : S41) : Ev (fun k => kern_compare.f k a.f0 a.f1 a.f2 b.f0 b.f1 b.f2) (if cmpI a.f0 b.f0 = 0 then cmpI a.f1 b.f1 else cmpI a.f0 b.f0) := by
  refine Ev.congr (g := fun k => kern_compare.f k a.f0 a.f1 a.f2 b.f0 b.f1 b.f2) (fun k => by unfold kern_compare.f; rw [cmp_i, cmp_i, Option.bind_some, Option.bind_some]) (Ev.bind (or2 _ _) (Ev.now _))
theorem cmp_lt (a b : S41) : decide ((if cmpI a.f0 b.f0 = 0 then cmpI a.f1 b.f1 else cmpI a.f0 b.f0) < 0) = lt a b := by
  unfold cmpI lt
  apply decide_eq_decide.mpr
  constructor
  · intro h
    repeat' split at h
    all_goals omega
  · intro h
    repeat' split
    all_goals omega
theorem rises_ev (l : List S41) (i : Nat) (h : i < l.length) (hn : l.length ≤ 9223372036854775807) : Ev (fun k => kern_rises.f k l i) ((i == 0) || lt (rd_T41 l ((i : Int) - 1)) (rd_T41 l i)) := by
  by_cases h0 : i = 0
  · subst h0
    exact all_ true (fun k => by unfold kern_rises.f; rw [if_pos (show ((0 : Nat) : Int) = 0 from rfl)])
  · have e : wrap64 ((i : Int) - 1) = (i : Int) - 1 := wid (by omega) (by omega)
    have hb : (i == 0) = false := by simpa using h0
    rw [hb, Bool.false_or, ← cmp_lt]
    refine Ev.congr (g := fun k => kern_rises.f k l i) (fun k => by unfold kern_rises.f; rw [if_neg (by omega), e, if_pos (by omega), if_pos (by omega), if_pos (by omega), if_pos (by omega)]) (Ev.bind (compare_ev _ _) (Ev.now _))
theorem after_lt (a b : S41) : pochoirref40_after.f a.f0 a.f1 a.f2 b.f0 b.f1 b.f2 = some (lt b a) := by
  unfold pochoirref40_after.f lt
  by_cases h1 : a.f0 > b.f0
  · rw [if_pos h1, decide_eq_true (.inl h1)]
  · rw [if_neg h1]
    by_cases h2 : a.f0 = b.f0
    · rw [if_pos h2]
      congr 1
      apply decide_eq_decide.mpr
      omega
    · rw [if_neg h2, decide_eq_false (by omega)]
/-- The i-th one may be. -/
def okAt (g : Int) (l : List S41) (i : Nat) : Bool := decide (0 ≤ (rd_T41 l i).f0 ∧ (rd_T41 l i).f0 < g ∧ 0 ≤ (rd_T41 l i).f1 ∧ (rd_T41 l i).f1 < g ∧ -32768 ≤ (rd_T41 l i).f2 ∧ (rd_T41 l i).f2 ≤ 32767) && ((i == 0) || lt (rd_T41 l ((i : Int) - 1)) (rd_T41 l i))
def allB (g : Int) (l : List S41) (i n : Nat) : Bool := (List.range' i n).all (okAt g l)
def mayB (g : Int) (l : List S41) : Bool := decide (1 ≤ g ∧ g ≤ 1024 ∧ l.length ≤ 4096) && allB g l 0 l.length
theorem allB_succ (g : Int) (l : List S41) (i n : Nat) : allB g l i (n + 1) = (okAt g l i && allB g l (i + 1) n) := by simp [allB, List.range'_succ]
theorem may_loop (g : Int) (l : List S41) (hn : l.length ≤ 9223372036854775807) : ∀ (m i : Nat), l.length - i = m → i ≤ l.length → Ev (fun k => kern_May.l0 k l g l (l.length : Int) i) (allB g l i m) := by
  intro m
  induction m with
  | zero =>
    intro i h1 h2
    exact one_ true (fun k => by simp only [kern_May.l0]; rw [if_neg (by omega)])
  | succ m ih =>
    intro i h1 h2
    rw [allB_succ]
    have hr := rises_ev l i (by omega) hn
    by_cases c1 : mn (rd_T41 l i).f0 (rd_T41 l i).f1 < 0
    · have : okAt g l i = false := by unfold okAt; rw [mn_def] at c1; rw [decide_eq_false (by omega)]; rfl
      rw [this]
      exact one_ false (fun k => by simp only [kern_May.l0]; rw [if_pos (by omega), if_pos (by omega), if_pos (by omega), if_pos c1])
    by_cases c2 : mx (rd_T41 l i).f0 (rd_T41 l i).f1 ≥ g
    · have : okAt g l i = false := by unfold okAt; rw [mx_def] at c2; rw [decide_eq_false (by omega)]; rfl
      rw [this]
      exact one_ false (fun k => by simp only [kern_May.l0]; rw [if_pos (by omega), if_pos (by omega), if_pos (by omega), if_neg c1, if_pos c2])
    by_cases c3 : (rd_T41 l i).f2 < -32768
    · have : okAt g l i = false := by unfold okAt; rw [decide_eq_false (by omega)]; rfl
      rw [this]
      exact one_ false (fun k => by simp only [kern_May.l0]; rw [if_pos (by omega), if_pos (by omega), if_pos (by omega), if_neg c1, if_neg c2, if_pos c3])
    by_cases c4 : (rd_T41 l i).f2 > 32767
    · have : okAt g l i = false := by unfold okAt; rw [decide_eq_false (by omega)]; rfl
      rw [this]
      exact one_ false (fun k => by simp only [kern_May.l0]; rw [if_pos (by omega), if_pos (by omega), if_pos (by omega), if_neg c1, if_neg c2, if_neg c3, if_pos c4])
    have e : okAt g l i = ((i == 0) || lt (rd_T41 l ((i : Int) - 1)) (rd_T41 l i)) := by
      unfold okAt
      rw [mn_def] at c1
      rw [mx_def] at c2
      rw [decide_eq_true (by omega), Bool.true_and]
    rw [e]
    refine Ev.step (fun k => by simp only [kern_May.l0]; rw [if_pos (by omega), if_pos (by omega), if_pos (by omega), if_neg c1, if_neg c2, if_neg c3, if_neg c4]) (Ev.bind hr ?_)
    cases ((i == 0) || lt (rd_T41 l ((i : Int) - 1)) (rd_T41 l i)) with
    | false => exact Ev.now _
    | true =>
      simp only [if_true, Bool.true_and]
      rw [wup (by omega)]
      exact ih (i + 1) (by omega) (by omega)
theorem may_ev (g : Int) (l : List S41) (hn : l.length ≤ 9223372036854775807) : Ev (fun k => kern_May.f k l g) (mayB g l) := by
  have jt : Ev (fun k => kern_May.j0 k l g true) false := one_ false (fun k => by simp [kern_May.j0])
  unfold mayB
  by_cases h1 : g < 1
  · rw [decide_eq_false (by omega), Bool.false_and]
    exact Ev.congr (g := fun k => kern_May.f k l g) (fun k => by unfold kern_May.f; rw [if_pos h1]) jt
  by_cases h2 : g > 1024
  · rw [decide_eq_false (by omega), Bool.false_and]
    exact Ev.congr (g := fun k => kern_May.f k l g) (fun k => by unfold kern_May.f; rw [if_neg h1, if_pos h2]) jt
  by_cases h3 : (l.length : Int) > 4096
  · rw [decide_eq_false (by omega), Bool.false_and]
    exact Ev.congr (g := fun k => kern_May.f k l g) (fun k => by unfold kern_May.f; rw [if_neg h1, if_neg h2, decide_eq_true h3]) jt
  rw [decide_eq_true (by omega), Bool.true_and]
  refine Ev.congr (g := fun k => kern_May.f k l g) (f := fun k => kern_May.j0 k l g false) (fun k => by unfold kern_May.f; rw [if_neg h1, if_neg h2, decide_eq_false h3]) ?_
  exact Ev.step (fun k => by simp [kern_May.j0]) (may_loop g l hn l.length 0 rfl (by omega))
theorem rmay_loop (g : Int) (l : List S41) (hn : l.length ≤ 9223372036854775807) : ∀ (m i : Nat), l.length - i = m → i ≤ l.length → Ev (fun k => pochoirref40_May.l0 k l g i) (allB g l i m) := by
  intro m
  induction m with
  | zero =>
    intro i h1 h2
    exact one_ true (fun k => by simp only [pochoirref40_May.l0]; rw [if_neg (by omega)])
  | succ m ih =>
    intro i h1 h2
    rw [allB_succ]
    have go : okAt g l i = false → ∀ f, (∀ k, pochoirref40_May.l0 (k + 1) l g i = some false) → Ev (fun k => pochoirref40_May.l0 k l g i) (okAt g l i && f) := fun h f hk => by
      rw [h]
      exact Ev.step hk (Ev.now _)
    by_cases c1 : (rd_T41 l i).f0 < 0
    · exact go (by unfold okAt; rw [decide_eq_false (by omega)]; rfl) _ (fun k => by simp only [pochoirref40_May.l0]; rw [if_pos (by omega), if_pos (by omega), if_pos c1])
    by_cases c2 : (rd_T41 l i).f0 ≥ g
    · exact go (by unfold okAt; rw [decide_eq_false (by omega)]; rfl) _ (fun k => by simp only [pochoirref40_May.l0]; rw [if_pos (by omega), if_pos (by omega), if_neg c1, if_pos c2])
    by_cases c3 : (rd_T41 l i).f1 < 0
    · exact go (by unfold okAt; rw [decide_eq_false (by omega)]; rfl) _ (fun k => by simp only [pochoirref40_May.l0]; rw [if_pos (by omega), if_pos (by omega), if_neg c1, if_neg c2, if_pos c3])
    by_cases c4 : (rd_T41 l i).f1 ≥ g
    · exact go (by unfold okAt; rw [decide_eq_false (by omega)]; rfl) _ (fun k => by simp only [pochoirref40_May.l0]; rw [if_pos (by omega), if_pos (by omega), if_neg c1, if_neg c2, if_neg c3, if_pos c4])
    by_cases c5 : (rd_T41 l i).f2 < -32768
    · exact go (by unfold okAt; rw [decide_eq_false (by omega)]; rfl) _ (fun k => by simp only [pochoirref40_May.l0]; rw [if_pos (by omega), if_pos (by omega), if_neg c1, if_neg c2, if_neg c3, if_neg c4, if_pos c5])
    by_cases c6 : (rd_T41 l i).f2 > 32767
    · exact go (by unfold okAt; rw [decide_eq_false (by omega)]; rfl) _ (fun k => by simp only [pochoirref40_May.l0]; rw [if_pos (by omega), if_pos (by omega), if_neg c1, if_neg c2, if_neg c3, if_neg c4, if_neg c5, if_pos c6])
    have e : okAt g l i = ((i == 0) || lt (rd_T41 l ((i : Int) - 1)) (rd_T41 l i)) := by
      unfold okAt
      rw [decide_eq_true (by omega), Bool.true_and]
    rw [e]
    by_cases h0 : i = 0
    · have hb : (i == 0) = true := by simpa using h0
      rw [hb, Bool.true_or, Bool.true_and]
      refine Ev.step (fun k => ?_) (ih (i + 1) (by omega) (by omega))
      simp only [pochoirref40_May.l0]
      rw [if_pos (by omega), if_pos (by omega), if_neg c1, if_neg c2, if_neg c3, if_neg c4, if_neg c5, if_neg c6, if_neg (by omega), wup (by omega)]
    · have hb : (i == 0) = false := by simpa using h0
      have w : wrap64 ((i : Int) - 1) = (i : Int) - 1 := wid (by omega) (by omega)
      rw [hb, Bool.false_or]
      cases hl : lt (rd_T41 l ((i : Int) - 1)) (rd_T41 l i) with
      | false => exact one_ false (fun k => by simp only [pochoirref40_May.l0]; rw [if_pos (by omega), if_pos (by omega), if_neg c1, if_neg c2, if_neg c3, if_neg c4, if_neg c5, if_neg c6, if_pos (by omega), w, if_pos (by omega), if_pos (by omega), after_lt, Option.bind_some, hl, if_neg (by decide)])
      | true =>
        rw [Bool.true_and]
        exact Ev.step (fun k => by simp only [pochoirref40_May.l0]; rw [if_pos (by omega), if_pos (by omega), if_neg c1, if_neg c2, if_neg c3, if_neg c4, if_neg c5, if_neg c6, if_pos (by omega), w, if_pos (by omega), if_pos (by omega), after_lt, Option.bind_some, hl, if_pos rfl, wup (by omega)]) (ih (i + 1) (by omega) (by omega))
theorem rmay_ev (g : Int) (l : List S41) (hn : l.length ≤ 9223372036854775807) : Ev (fun k => pochoirref40_May.f k l g) (mayB g l) := by
  have jt : Ev (fun k => pochoirref40_May.j0 k l g true) false := one_ false (fun k => by simp [pochoirref40_May.j0])
  unfold mayB
  by_cases h1 : g < 1
  · rw [decide_eq_false (by omega), Bool.false_and]
    exact Ev.congr (g := fun k => pochoirref40_May.f k l g) (fun k => by unfold pochoirref40_May.f; rw [if_pos h1]) jt
  by_cases h2 : g > 1024
  · rw [decide_eq_false (by omega), Bool.false_and]
    exact Ev.congr (g := fun k => pochoirref40_May.f k l g) (fun k => by unfold pochoirref40_May.f; rw [if_neg h1, if_pos h2]) jt
  by_cases h3 : (l.length : Int) > 4096
  · rw [decide_eq_false (by omega), Bool.false_and]
    exact Ev.congr (g := fun k => pochoirref40_May.f k l g) (fun k => by unfold pochoirref40_May.f; rw [if_neg h1, if_neg h2, decide_eq_true h3]) jt
  rw [decide_eq_true (by omega), Bool.true_and]
  refine Ev.congr (g := fun k => pochoirref40_May.f k l g) (f := fun k => pochoirref40_May.j0 k l g false) (fun k => by unfold pochoirref40_May.f; rw [if_neg h1, if_neg h2, decide_eq_false h3]) ?_
  exact Ev.step (fun k => by simp [pochoirref40_May.j0]) (rmay_loop g l hn l.length 0 rfl (by omega))
/-- What two are moved by. -/
def byD (l : List S41) (a b : Int) : Int := (kern_Shift.by_ l a b).getD 0
theorem rd41_at (l : List S41) (i : Nat) (h : i < l.length) : rd_T41 l (i : Int) = l[i] := by unfold rd_T41; simp [List.getD, h]
theorem by_ev (l : List S41) (a b : Int) (hn : l.length ≤ 9223372036854775807) : Ev (fun k => kern_By.f k l a b) (byD l a b) := by
  have key : ∀ (m i : Nat), l.length - i = m → i ≤ l.length → ∃ j : Int, Ev (fun k => kern_By.l0 k l a b i) j ∧ (if j < 0 then some 0 else if j < (l.length : Int) then some (rd_T41 l j).f2 else none) = some (byD (l.drop i) a b) := by
    intro m
    induction m with
    | zero =>
      intro i h1 h2
      refine ⟨-1, Ev.step (fun k => by simp only [kern_By.l0]; rw [if_neg (by omega)]) (Ev.now _), ?_⟩
      rw [List.drop_eq_nil_of_le (by omega)]
      rfl
    | succ m ih =>
      intro i h1 h2
      have hd := List.drop_eq_getElem_cons (l := l) (i := i) (by omega)
      by_cases c : ((rd_T41 l i).f0 == a && (rd_T41 l i).f1 == b) = true
      · refine ⟨i, Ev.step (fun k => by simp only [kern_By.l0]; rw [if_pos (by omega), if_pos (by omega), if_pos c]) (Ev.now _), ?_⟩
        rw [if_neg (by omega), if_pos (by omega), hd]
        rw [rd41_at l i (by omega)] at c ⊢
        simp at c
        simp [byD, kern_Shift.by_, c]
      · obtain ⟨j, h3, h4⟩ := ih (i + 1) (by omega) (by omega)
        refine ⟨j, Ev.step (fun k => by simp only [kern_By.l0]; rw [if_pos (by omega), if_pos (by omega), if_neg c, wup (by omega)]) h3, ?_⟩
        rw [h4, hd]
        rw [rd41_at l i (by omega)] at c
        simp at c
        simp only [byD, kern_Shift.by_]
        rw [if_neg (fun h => c h.1 h.2)]
  obtain ⟨j, h1, h2⟩ := key l.length 0 rfl (by omega)
  rw [List.drop_zero] at h2
  exact Ev.congr (g := fun k => kern_By.f k l a b) (fun k => rfl) (Ev.bind h1 (by rw [h2]; exact Ev.now _))
theorem rby_ev (l : List S41) (a b : Int) (hn : l.length ≤ 9223372036854775807) : Ev (fun k => pochoirref40_By.f k l a b) (byD l a b) := by
  have key : ∀ (m i : Nat), l.length - i = m → i ≤ l.length → Ev (fun k => pochoirref40_By.l0 k l a b i) (byD (l.drop i) a b) := by
    intro m
    induction m with
    | zero =>
      intro i h1 h2
      rw [List.drop_eq_nil_of_le (by omega)]
      exact one_ 0 (fun k => by simp only [pochoirref40_By.l0]; rw [if_neg (by omega)])
    | succ m ih =>
      intro i h1 h2
      have hd := List.drop_eq_getElem_cons (l := l) (i := i) (by omega)
      have hr := rd41_at l i (by omega)
      by_cases c1 : (rd_T41 l i).f0 = a
      · by_cases c2 : (rd_T41 l i).f1 = b
        · have : byD (l.drop i) a b = (rd_T41 l i).f2 := by rw [hd, hr]; rw [hr] at c1 c2; simp [byD, kern_Shift.by_, c1, c2]
          rw [this]
          exact one_ _ (fun k => by simp only [pochoirref40_By.l0]; rw [if_pos (by omega), if_pos (by omega), if_pos c1, if_pos c2])
        · have : byD (l.drop i) a b = byD (l.drop (i + 1)) a b := by rw [hd]; rw [hr] at c2; simp [byD, kern_Shift.by_, c2]
          rw [this]
          exact Ev.step (fun k => by simp only [pochoirref40_By.l0]; rw [if_pos (by omega), if_pos (by omega), if_pos c1, if_neg c2, wup (by omega)]) (ih (i + 1) (by omega) (by omega))
      · have : byD (l.drop i) a b = byD (l.drop (i + 1)) a b := by rw [hd]; rw [hr] at c1; simp [byD, kern_Shift.by_, c1]
        rw [this]
        exact Ev.step (fun k => by simp only [pochoirref40_By.l0]; rw [if_pos (by omega), if_pos (by omega), if_neg c1, wup (by omega)]) (ih (i + 1) (by omega) (by omega))
  exact key l.length 0 rfl (by omega)
theorem same_self (l : List S41) (hn : l.length ≤ 9223372036854775807) : Ev (fun k => pochoirref40_Same.f k l l) true := by
  have key : ∀ (m i : Nat), l.length - i = m → i ≤ l.length → Ev (fun k => pochoirref40_Same.l0 k l l i) true := by
    intro m
    induction m with
    | zero =>
      intro i h1 h2
      exact one_ true (fun k => by simp only [pochoirref40_Same.l0]; rw [if_neg (by omega)])
    | succ m ih =>
      intro i h1 h2
      exact Ev.step (fun k => by simp only [pochoirref40_Same.l0]; rw [if_pos (by omega), if_pos (by omega), if_pos (by omega), if_neg (by simp), wup (by omega)]) (ih (i + 1) (by omega) (by omega))
  exact Ev.congr (g := fun k => pochoirref40_Same.f k l l) (fun k => by unfold pochoirref40_Same.f; rw [if_pos rfl]; rfl) (key l.length 0 rfl (by omega))
theorem same43_self (l : List S43) (hn : l.length ≤ 9223372036854775807) : Ev (fun k => pochoirref33_Same.f k l l) true := by
  have key : ∀ (m i : Nat), l.length - i = m → i ≤ l.length → Ev (fun k => pochoirref33_Same.l0 k l l i) true := by
    intro m
    induction m with
    | zero =>
      intro i h1 h2
      exact one_ true (fun k => by simp only [pochoirref33_Same.l0]; rw [if_neg (by omega)])
    | succ m ih =>
      intro i h1 h2
      exact Ev.step (fun k => by simp only [pochoirref33_Same.l0]; rw [if_pos (by omega), if_pos (by omega), if_pos (by omega), if_neg (by simp), wup (by omega)]) (ih (i + 1) (by omega) (by omega))
  exact Ev.congr (g := fun k => pochoirref33_Same.f k l l) (fun k => by unfold pochoirref33_Same.f; rw [if_pos rfl]; rfl) (key l.length 0 rfl (by omega))
end Go.Proofs.Ythnojbbfmcapnaa.Pure
