/- Pure: the program and the reference agree on which atlases may be; what such an atlas holds. -/
import Derived.Test.YtjcgmjhcaaaieaaDoorPr4
import Derived.Test.YtjcgmjhcaaaieaaDoorPr5
import Derived.Test.YtjcgmjhcaaaieaaDoorPr6
import Derived.Test.YtjcgmjhcaaaieaaDoorPr7
import Derived.Test.YtjcgmjhcaaaieaaDoorPr8
import Derived.Test.YtjcgmjhcaaaieaaDoorPr9
import Derived.Test.YtjcgmjhcaaaieaaDoorPr31
import Derived.Test.YtjcgmjhcaaaieaaDoorPr32
import Derived.Test.YtjcgmjhcaaaieaaDoorPr33
import Derived.Test.YtjcgmjhcaaaieaaDoorPr34
namespace Go.Proofs.YtjcgmjhcaaaieaaDoor.Pure
set_option linter.unusedVariables false
set_option linter.unusedSimpArgs false
open Go.RowKit Go.Proofs.YtjcgmjhcaaaieaaDoor.Pr
open Go.Proofs.YtjcgmjhcaaaieaaDoorW.PrintWords Go.Proofs.YtjcgmjhcaaaieaaDoorW.PrintLast Go.Proofs.YtjcgmjhcaaaieaaDoorW.PrintMore

theorem upM {α : Type} {f : Nat → Option α} (h : ∀ k, LeO (f k) (f (k + 1))) {k k' : Nat} {r : α} (e : f k = some r) (hk : k ≤ k') : f k' = some r := by
  induction hk with
  | refl => exact e
  | step _ ih => exact h _ _ ih
def ins (a b c : Int) : Bool := decide (b ≤ a) && decide (a ≤ c)
theorem ins_true {a b c : Int} : ins a b c = true ↔ b ≤ a ∧ a ≤ c := by simp [ins]
theorem within_ins (a b c : Int) : atlas_within.f a b c = some (ins a b c) := by
  unfold atlas_within.f ins
  by_cases h : a ≥ b
  · rw [if_pos h, decide_eq_true (show b ≤ a from h), Bool.true_and]
  · rw [if_neg h, decide_eq_false (show ¬ b ≤ a from h), Bool.false_and]
theorem cwithin_ins (a b c : Int) : cell_within.f a b c = some (ins a b c) := within_ins a b c
theorem in_ins (a b c : Int) : pochoirref30_in.f a b c = some (ins a b c) := within_ins a b c
theorem short_ins (a : Int) : atlas_short.f a = some (ins a (-32768) 32767) := by unfold atlas_short.f; rw [within_ins]; rfl
theorem rshort_ins (a : Int) : pochoirref30_short.f a = some (ins a (-32768) 32767) := within_ins a (-32768) 32767
/-- A cell's. -/
def cellB (x y w h : Int) : Bool := (x == 0 && (y == 0 && (w == 0 && (h == 0)))) || (ins w 1 256 && (ins h 1 256 && (ins x (-1048576) 1048576 && ins y (-1048576) 1048576)))
theorem cell_b (x y w h : Int) : cell_May.f x y w h = some (cellB x y w h) := by
  unfold cell_May.f cellB
  cases (x == 0 && (y == 0 && (w == 0 && (h == 0)))) with
  | true => rfl
  | false =>
    rw [if_neg (by decide), cwithin_ins, Option.bind_some, Bool.false_or]
    cases ins w 1 256 with
    | false => rfl
    | true =>
      rw [if_pos rfl, cwithin_ins, Option.bind_some, Bool.true_and]
      cases ins h 1 256 with
      | false => rfl
      | true =>
        rw [if_pos rfl, cwithin_ins, Option.bind_some, Bool.true_and]
        cases ins x (-1048576) 1048576 with
        | false => rfl
        | true => rw [if_pos rfl, cwithin_ins, Option.bind_some, Bool.true_and]
theorem rcell_b (x y w h : Int) : pochoirref25_May.f x y w h = some (cellB x y w h) := by
  unfold pochoirref25_May.f cellB
  cases (x == 0 && (y == 0 && (w == 0 && (h == 0)))) with
  | true => rfl
  | false =>
    rw [if_neg (by decide), Bool.false_or]
    unfold ins
    by_cases h1 : w ≥ 1
    · by_cases h2 : w ≤ 256
      · by_cases h3 : h ≥ 1
        · by_cases h4 : h ≤ 256
          · by_cases h5 : x ≥ -1048576
            · by_cases h6 : x ≤ 1048576
              · by_cases h7 : y ≥ -1048576 <;> simp [h1, h2, h3, h4, h5, h6, h7]
              · simp [h1, h2, h3, h4, h5, h6]
            · simp [h1, h2, h3, h4, h5]
          · simp [h1, h2, h3, h4]
        · simp [h1, h2, h3]
      · simp [h1, h2]
    · simp [h1]
/-- A glyph's. -/
def entryB (g : S54) (W H n : Int) : Bool :=
  ins g.f0 0 65535 && (cellB g.f1.f0 g.f1.f1 g.f1.f2 g.f1.f3 && (if (g.f1.f0 == 0 && (g.f1.f1 == 0 && (g.f1.f2 == 0 && (g.f1.f3 == 0)))) = true then (g.f2.f0 == 0 && (g.f2.f1 == 0 && (g.f2.f2 == 0)))
    else (ins g.f2.f0 0 (wrap64 (n - 1)) && (ins g.f2.f1 0 (wrap64 (W - g.f1.f2)) && ins g.f2.f2 0 (wrap64 (H - g.f1.f3))))))
theorem entry_b (k : Nat) (g : S54) (W H n : Int) : atlas_entry.f (k + 1) g.f0 g.f1.f0 g.f1.f1 g.f1.f2 g.f1.f3 g.f2.f0 g.f2.f1 g.f2.f2 W H n = some (entryB g W H n) := by
  unfold atlas_entry.f entryB
  rw [within_ins, Option.bind_some]
  cases ins g.f0 0 65535 with
  | false => rfl
  | true =>
    rw [if_pos rfl, cell_b, Option.bind_some, Bool.true_and]
    cases cellB g.f1.f0 g.f1.f1 g.f1.f2 g.f1.f3 with
    | false => rfl
    | true =>
      simp only [atlas_entry.j0, Bool.not_true, Bool.false_eq_true, if_false, Bool.true_and]
      split
      · rfl
      · rw [within_ins, Option.bind_some]
        cases ins g.f2.f0 0 (wrap64 (n - 1)) with
        | false => rfl
        | true =>
          rw [if_pos rfl, within_ins, Option.bind_some, Bool.true_and]
          cases ins g.f2.f1 0 (wrap64 (W - g.f1.f2)) with
          | false => rfl
          | true => rw [if_pos rfl, within_ins, Option.bind_some, Bool.true_and]
theorem rentry_b (k : Nat) (g : S54) (W H n : Int) : pochoirref30_entry.f (k + 1) g.f0 g.f1.f0 g.f1.f1 g.f1.f2 g.f1.f3 g.f2.f0 g.f2.f1 g.f2.f2 W H n = some (entryB g W H n) := by
  unfold pochoirref30_entry.f entryB
  rw [in_ins, Option.bind_some]
  cases ins g.f0 0 65535 with
  | false => rfl
  | true =>
    rw [if_pos rfl, rcell_b, Option.bind_some, Bool.true_and]
    cases cellB g.f1.f0 g.f1.f1 g.f1.f2 g.f1.f3 with
    | false => rfl
    | true =>
      simp only [pochoirref30_entry.j0, Bool.not_true, Bool.false_eq_true, if_false, Bool.true_and]
      split
      · rfl
      · rw [in_ins, Option.bind_some]
        cases ins g.f2.f0 0 (wrap64 (n - 1)) with
        | false => rfl
        | true =>
          rw [if_pos rfl, in_ins, Option.bind_some, Bool.true_and]
          cases ins g.f2.f1 0 (wrap64 (W - g.f1.f2)) with
          | false => rfl
          | true => rw [if_pos rfl, in_ins, Option.bind_some, Bool.true_and]
theorem wrap_up {i : Nat} (h : (i : Int) < 140737488355328) : wrap64 ((i : Int) + 1) = ((i + 1 : Nat) : Int) := by unfold wrap64; omega
/-- The pairs. -/
def pairsB (n : Int) : Int → List S84 → Bool
  | _, [] => true
  | last, p :: r => if p.f0 ≤ last then false else if p.f0 > 1114111 then false else if p.f1 < 1 then false else if p.f1 ≥ n then false else pairsB n p.f0 r
theorem rd84_at (l : List S84) (i : Nat) (h : i < l.length) : rd_T84 l (i : Int) = l[i] := by unfold rd_T84; simp [List.getD, h]
theorem rd54_at (l : List S54) (i : Nat) (h : i < l.length) : Z_ l (i : Int) = l[i] := by unfold Z_; simp [List.getD, h]
theorem pairs_loop (l : List S84) (n : Int) (hl : (l.length : Int) < 140737488355328) : ∀ (m i k : Nat) (last : Int), l.length - i ≤ m → i ≤ l.length → m < k →
    cmap_May.l0 k n last l (l.length : Int) i = some (pairsB n last (l.drop i)) ∧ pochoirref12_May.l0 k l n last i = some (pairsB n last (l.drop i)) := by
  intro m
  induction m with
  | zero =>
    intro i k last h1 h2 h3
    obtain ⟨k, rfl⟩ : ∃ j, k = j + 1 := ⟨k - 1, by omega⟩
    simp only [cmap_May.l0, pochoirref12_May.l0]
    rw [if_neg (by omega), if_neg (by omega), List.drop_eq_nil_of_le (by omega)]
    exact ⟨rfl, rfl⟩
  | succ m ih =>
    intro i k last h1 h2 h3
    obtain ⟨k, rfl⟩ : ∃ j, k = j + 1 := ⟨k - 1, by omega⟩
    simp only [cmap_May.l0, pochoirref12_May.l0]
    by_cases hi : i < l.length
    · have hp : (i : Int) < (l.length : Int) := by omega
      have h0 : (0 : Int) ≤ (i : Int) := by omega
      simp only [if_pos hp, if_pos h0, rd84_at l i hi, List.drop_eq_getElem_cons hi, pairsB]
      split
      · exact ⟨rfl, rfl⟩
      split
      · exact ⟨rfl, rfl⟩
      split
      · exact ⟨rfl, rfl⟩
      split
      · exact ⟨rfl, rfl⟩
      rw [wrap_up (by omega)]
      exact ih (i + 1) k _ (by omega) (by omega) (by omega)
    · rw [if_neg (by omega), if_neg (by omega), List.drop_eq_nil_of_le (by omega)]
      exact ⟨rfl, rfl⟩
def cmapB (l : List S84) (n : Int) : Bool := ins n 1 1024 && (decide ((l.length : Int) ≤ 4096) && pairsB n (-1) l)
theorem cmap_b (l : List S84) (n : Int) (k : Nat) (hk : l.length + 2 ≤ k) : cmap_May.f k l n = some (cmapB l n) ∧ pochoirref12_May.f k l n = some (cmapB l n) := by
  obtain ⟨k, rfl⟩ : ∃ j, k = j + 1 := ⟨k - 1, by omega⟩
  unfold cmap_May.f pochoirref12_May.f cmapB ins
  simp only [cmap_May.j0, pochoirref12_May.j0]
  by_cases h1 : n < 1
  · rw [if_pos h1, if_pos h1, decide_eq_false (show ¬ 1 ≤ n by omega)]
    exact ⟨rfl, rfl⟩
  rw [if_neg h1, if_neg h1, decide_eq_true (show 1 ≤ n by omega)]
  by_cases h2 : n > 1024
  · rw [if_pos h2, if_pos h2, decide_eq_false (show ¬ n ≤ 1024 by omega)]
    exact ⟨rfl, rfl⟩
  rw [if_neg h2, if_neg h2, decide_eq_true (show n ≤ 1024 by omega)]
  by_cases h3 : (l.length : Int) > 4096
  · rw [decide_eq_true h3, decide_eq_false (show ¬ (l.length : Int) ≤ 4096 by omega)]
    exact ⟨rfl, rfl⟩
  rw [decide_eq_false h3, decide_eq_true (show (l.length : Int) ≤ 4096 by omega)]
  simp only [Bool.false_eq_true, if_false, Bool.true_and]
  obtain ⟨e1, e2⟩ := pairs_loop l n (by omega) l.length 0 k (-1) (by omega) (by omega) (by omega)
  rw [List.drop_zero] at e1 e2
  exact ⟨e1, e2⟩
/-- The pages and the glyphs. -/
def glyphsB (W H : Int) (gs : List S54) (ps : List S84) (pages : List ByteArray) (l : List S54) : Bool := l.all (fun g => entryB g W H (pages.length : Int)) && cmapB ps (gs.length : Int)
def pagesB (W H : Int) (gs : List S54) (ps : List S84) (pages l : List ByteArray) : Bool := l.all (fun s => decide ((s.size : Int) = wrap64 ((wrap64 (4 * W)) * H))) && glyphsB W H gs ps pages gs
theorem glyphs_loop (a0 a1 a2 a3 a4 a5 W H : Int) (gs : List S54) (ps : List S84) (pages : List ByteArray) (hl : (gs.length : Int) < 140737488355328) : ∀ (m i k : Nat), gs.length - i ≤ m → i ≤ gs.length → m + ps.length + 2 < k →
    atlas_May.l1 k gs (gs.length : Int) i a0 a1 a2 a3 a4 a5 W H gs ps pages = some (glyphsB W H gs ps pages (gs.drop i)) ∧ pochoirref30_May.l1 k i a0 a1 a2 a3 a4 a5 W H gs ps pages = some (glyphsB W H gs ps pages (gs.drop i)) := by
  intro m
  induction m with
  | zero =>
    intro i k h1 h2 h3
    obtain ⟨k, rfl⟩ : ∃ j, k = j + 1 := ⟨k - 1, by omega⟩
    obtain ⟨e1, e2⟩ := cmap_b ps (gs.length : Int) k (by omega)
    simp only [atlas_May.l1, pochoirref30_May.l1]
    rw [if_neg (by omega), if_neg (by omega), List.drop_eq_nil_of_le (by omega), e1, e2]
    exact ⟨rfl, rfl⟩
  | succ m ih =>
    intro i k h1 h2 h3
    obtain ⟨k, rfl⟩ : ∃ j, k = j + 1 := ⟨k - 1, by omega⟩
    by_cases hi : i < gs.length
    · obtain ⟨k', hk'⟩ : ∃ j, k = j + 1 := ⟨k - 1, by omega⟩
      simp only [atlas_May.l1, pochoirref30_May.l1]
      have hp : (i : Int) < (gs.length : Int) := by omega
      have h0 : (0 : Int) ≤ (i : Int) := by omega
      simp only [if_pos hp, if_pos h0, rd54_at gs i hi, List.drop_eq_getElem_cons hi]
      have e1 := entry_b k' gs[i] W H (pages.length : Int)
      have e2 := rentry_b k' gs[i] W H (pages.length : Int)
      rw [← hk'] at e1 e2
      rw [e1, e2, Option.bind_some, Option.bind_some]
      unfold glyphsB
      rw [List.all_cons]
      cases entryB gs[i] W H (pages.length : Int) with
      | false => exact ⟨rfl, rfl⟩
      | true =>
        rw [if_pos rfl, if_pos rfl, wrap_up (by omega), Bool.true_and]
        exact ih (i + 1) k (by omega) (by omega) (by omega)
    · obtain ⟨e1, e2⟩ := cmap_b ps (gs.length : Int) k (by omega)
      simp only [atlas_May.l1, pochoirref30_May.l1]
      rw [if_neg (by omega), if_neg (by omega), List.drop_eq_nil_of_le (by omega), e1, e2]
      exact ⟨rfl, rfl⟩
theorem rdOf_at (l : List ByteArray) (i : Nat) (h : i < l.length) : rdOf ByteArray.empty l (i : Int) = l[i] := by unfold rdOf; simp [List.getD, h]
theorem pages_loop (a0 a1 a2 a3 a4 a5 W H : Int) (gs : List S54) (ps : List S84) (pages : List ByteArray) (hg : (gs.length : Int) < 140737488355328) (hl : (pages.length : Int) < 140737488355328) : ∀ (m i k : Nat), pages.length - i ≤ m → i ≤ pages.length → m + gs.length + ps.length + 3 < k →
    atlas_May.l0 k pages (pages.length : Int) i a0 a1 a2 a3 a4 a5 W H gs ps pages = some (pagesB W H gs ps pages (pages.drop i)) ∧ pochoirref30_May.l0 k i a0 a1 a2 a3 a4 a5 W H gs ps pages = some (pagesB W H gs ps pages (pages.drop i)) := by
  intro m
  have fin : ∀ (i k : Nat), pages.length ≤ i → gs.length + ps.length + 3 < k + 1 → atlas_May.l0 (k + 1) pages (pages.length : Int) i a0 a1 a2 a3 a4 a5 W H gs ps pages = some (pagesB W H gs ps pages (pages.drop i)) ∧ pochoirref30_May.l0 (k + 1) i a0 a1 a2 a3 a4 a5 W H gs ps pages = some (pagesB W H gs ps pages (pages.drop i)) := by
    intro i k h1 h2
    obtain ⟨e1, e2⟩ := glyphs_loop a0 a1 a2 a3 a4 a5 W H gs ps pages hg gs.length 0 k (by omega) (by omega) (by omega)
    rw [List.drop_zero] at e1 e2
    simp only [atlas_May.l0, pochoirref30_May.l0]
    rw [if_neg (by omega), if_neg (by omega), List.drop_eq_nil_of_le (by omega)]
    exact ⟨e1, e2⟩
  induction m with
  | zero =>
    intro i k h1 h2 h3
    obtain ⟨k, rfl⟩ : ∃ j, k = j + 1 := ⟨k - 1, by omega⟩
    exact fin i k (by omega) (by omega)
  | succ m ih =>
    intro i k h1 h2 h3
    obtain ⟨k, rfl⟩ : ∃ j, k = j + 1 := ⟨k - 1, by omega⟩
    by_cases hi : i < pages.length
    · have hp : (i : Int) < (pages.length : Int) := by omega
      have h0 : (0 : Int) ≤ (i : Int) := by omega
      simp only [atlas_May.l0, pochoirref30_May.l0, if_pos hp, if_pos h0, rdOf_at pages i hi, List.drop_eq_getElem_cons hi]
      unfold pagesB
      rw [List.all_cons]
      by_cases hs : ((pages[i]).size : Int) = wrap64 ((wrap64 (4 * W)) * H)
      · rw [if_pos hs, if_pos hs, decide_eq_true hs, wrap_up (by omega), Bool.true_and]
        exact ih (i + 1) k (by omega) (by omega) (by omega)
      · rw [if_neg hs, if_neg hs, decide_eq_false hs]
        exact ⟨rfl, rfl⟩
    · exact fin i k (by omega) (by omega)
def numB (a0 a1 a2 a3 a4 a5 W H : Int) (gs : List S54) (pages : List ByteArray) : Bool :=
  ins a0 16 16384 && (ins a1 1 128 && (ins a2 1 16 && (ins a3 (-32768) 32767 && (ins a4 (-32768) 32767 && (ins a5 (-32768) 32767 && (ins W 1 1024 && (ins H 1 1024 && (decide ((pages.length : Int) ≤ 16) && ins (gs.length : Int) 1 1024))))))))
theorem numbers_b (a0 a1 a2 a3 a4 a5 W H : Int) (gs : List S54) (ps : List S84) (pages : List ByteArray) : atlas_numbers.f a0 a1 a2 a3 a4 a5 W H gs ps pages = some (numB a0 a1 a2 a3 a4 a5 W H gs pages) := by
  unfold atlas_numbers.f numB
  rw [within_ins, Option.bind_some]
  cases ins a0 16 16384 <;> try rfl
  rw [if_pos rfl, within_ins, Option.bind_some, Bool.true_and]
  cases ins a1 1 128 <;> try rfl
  rw [if_pos rfl, within_ins, Option.bind_some, Bool.true_and]
  cases ins a2 1 16 <;> try rfl
  rw [if_pos rfl, short_ins, Option.bind_some, Bool.true_and]
  cases ins a3 (-32768) 32767 <;> try rfl
  rw [if_pos rfl, short_ins, Option.bind_some, Bool.true_and]
  cases ins a4 (-32768) 32767 <;> try rfl
  rw [if_pos rfl, short_ins, Option.bind_some, Bool.true_and]
  cases ins a5 (-32768) 32767 <;> try rfl
  rw [if_pos rfl, within_ins, Option.bind_some, Bool.true_and]
  cases ins W 1 1024 <;> try rfl
  rw [if_pos rfl, within_ins, Option.bind_some, Bool.true_and]
  cases ins H 1 1024 <;> try rfl
  rw [if_pos rfl, Bool.true_and]
  by_cases h : (pages.length : Int) ≤ 16
  · rw [if_pos h, within_ins, decide_eq_true h]
    rfl
  · rw [if_neg h, decide_eq_false h]
    rfl
/-- An atlas may be. -/
def atlasB (a0 a1 a2 a3 a4 a5 W H : Int) (gs : List S54) (ps : List S84) (pages : List ByteArray) : Bool := numB a0 a1 a2 a3 a4 a5 W H gs pages && pagesB W H gs ps pages pages
theorem may_b (a0 a1 a2 a3 a4 a5 W H : Int) (gs : List S54) (ps : List S84) (pages : List ByteArray) (k : Nat) (hk : pages.length + gs.length + ps.length + 5 ≤ k) :
    atlas_May.f k a0 a1 a2 a3 a4 a5 W H gs ps pages = some (atlasB a0 a1 a2 a3 a4 a5 W H gs ps pages) ∧ pochoirref30_May.f k a0 a1 a2 a3 a4 a5 W H gs ps pages = some (atlasB a0 a1 a2 a3 a4 a5 W H gs ps pages) := by
  have loop : numB a0 a1 a2 a3 a4 a5 W H gs pages = true → ∀ k, pages.length + gs.length + ps.length + 4 ≤ k → atlas_May.l0 k pages (pages.length : Int) 0 a0 a1 a2 a3 a4 a5 W H gs ps pages = some (pagesB W H gs ps pages pages) ∧ pochoirref30_May.l0 k 0 a0 a1 a2 a3 a4 a5 W H gs ps pages = some (pagesB W H gs ps pages pages) := by
    intro hn k hk
    have hn' : (pages.length : Int) ≤ 16 ∧ (gs.length : Int) ≤ 1024 := by
      simp only [numB, Bool.and_eq_true, ins_true, decide_eq_true_eq] at hn
      omega
    have := pages_loop a0 a1 a2 a3 a4 a5 W H gs ps pages (by omega) (by omega) pages.length 0 k (by omega) (by omega) (by omega)
    rw [List.drop_zero] at this
    exact this
  constructor
  · unfold atlas_May.f atlasB
    rw [numbers_b, Option.bind_some]
    cases hn : numB a0 a1 a2 a3 a4 a5 W H gs pages with
    | false => rfl
    | true =>
      rw [if_pos rfl, Bool.true_and]
      exact (loop hn k (by omega)).1
  · obtain ⟨k, rfl⟩ : ∃ j, k = j + 1 := ⟨k - 1, by omega⟩
    unfold pochoirref30_May.f atlasB
    simp only [pochoirref30_May.j0]
    have lp := loop
    unfold numB at lp ⊢
    rw [in_ins, Option.bind_some]
    cases h0 : ins a0 16 16384 <;> try rfl
    rw [if_pos rfl, in_ins, Option.bind_some, Bool.true_and]
    cases h1 : ins a1 1 128 <;> try rfl
    rw [if_pos rfl, in_ins, Option.bind_some, Bool.true_and]
    cases h2 : ins a2 1 16 <;> try rfl
    rw [if_pos rfl, rshort_ins, Option.bind_some, Bool.true_and]
    cases h3 : ins a3 (-32768) 32767 <;> try rfl
    rw [if_pos rfl, rshort_ins, Option.bind_some, Bool.true_and]
    cases h4 : ins a4 (-32768) 32767 <;> try rfl
    rw [if_pos rfl, rshort_ins, Option.bind_some, Bool.true_and]
    cases h5 : ins a5 (-32768) 32767 <;> try rfl
    rw [if_pos rfl, in_ins, Option.bind_some, Bool.true_and]
    cases h6 : ins W 1 1024 <;> try rfl
    rw [if_pos rfl, in_ins, Option.bind_some, Bool.true_and]
    cases h7 : ins H 1 1024 <;> try rfl
    rw [if_pos rfl, Bool.true_and]
    by_cases h : (pages.length : Int) ≤ 16
    · rw [if_neg (by omega), in_ins, Option.bind_some, decide_eq_true h, Bool.true_and]
      cases h8 : ins (gs.length : Int) 1 1024 <;> try rfl
      rw [if_neg (by decide), Bool.true_and]
      exact (lp (by rw [h0, h1, h2, h3, h4, h5, h6, h7, decide_eq_true h, h8]; rfl) k (by omega)).2
    · rw [if_pos (by omega), decide_eq_false h]
      rfl
end Go.Proofs.YtjcgmjhcaaaieaaDoor.Pure
