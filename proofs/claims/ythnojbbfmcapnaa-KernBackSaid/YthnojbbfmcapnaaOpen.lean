/- What a call's arguments, read as data, say of their cells, kind by kind: a slice of structs, a struct with slices, a small array. -/
import Derived.WalkKit
import Derived.ProofKit
import Derived.OpenShut
import Derived.ShutString
import Derived.ChangeOld
import Derived.Below
import Derived.SizedLaws
import Derived.Test.YthnojbbfmcapnaaWordsWGuardInvWordsMore
namespace Go.Proofs.Ythnojbbfmcapnaa.Open
open Go.ChangeShapes Go.WideShapes Go.ChangeAt Go.RowKit Go.Proofs.YthnojbbfmcapnaaW.PrintWords
open Go.ChangeMaps (open_string shut_string)

/-- What reads at type T is, as its cells stand, an x of kind d, and Q holds of x. -/
structure Opens {α : Type} (P : Program) (d : Kd α) (T : TypeId) (Q : α → Prop) : Prop where
  of : ∀ {H : Type} {enc : TypeId × Value → H} {W : World} {base : Nat} {spare : Nat → Bool} {held : Bool} {fuel : Nat} {cs : List Value} {y : DataW H × List MemPlace},
    DataW.trod enc P W base spare held fuel T cs = some y → ∃ x, d.K W x cs ∧ Q x
theorem Opens.imp {α : Type} {P : Program} {d : Kd α} {T : TypeId} {Q Q' : α → Prop} (h : Opens P d T Q) (hq : ∀ x, Q x → Q' x) : Opens P d T Q' := ⟨fun e => let ⟨x, hx, q⟩ := h.of e; ⟨x, hx, hq x q⟩⟩
theorem opens_int {P : Program} {T : TypeId} {k : IntKind} (hu : P.underlying T = some (.int k)) : Opens P (Kd.int k) T (fun x => (Lit.int k x).wf = true) := ⟨fun h => by
  obtain ⟨n, rfl, _, hw⟩ := DataW.trod_int hu h
  exact ⟨n, rfl, hw⟩⟩
theorem opens_bool {P : Program} {T : TypeId} (hu : P.underlying T = some .bool) : Opens P Kd.bool T (fun _ => True) := ⟨fun h => by
  obtain ⟨n, rfl, _⟩ := DataW.trod_bool hu h
  exact ⟨n, rfl, trivial⟩⟩
theorem opens_string {P : Program} {T : TypeId} (hu : P.underlying T = some .string) : Opens P Kd.string T (fun s => s.size ≤ maxLen) := ⟨fun h => by
  obtain ⟨s, rfl, _, hs⟩ := DataW.trod_string hu h
  exact ⟨s, rfl, hs⟩⟩
/-- The fields of a struct from the o-th cell on. -/
structure Parts {α : Type} (P : Program) (d : Kd α) (fs : List Field) (o : Nat) (Q : α → Prop) : Prop where
  of : ∀ {H : Type} {enc : TypeId × Value → H} {W : World} {base : Nat} {spare : Nat → Bool} {held : Bool} {fuel : Nat} {cs : List Value} {ys : List (DataW H × List MemPlace)},
    (fs.mapM fun f => DataW.trod enc P W base spare held fuel f.type ((cs.drop f.offset).take (P.cellsOf f.type))) = some ys → ∃ x, d.K W x ((cs.drop o).take d.sz) ∧ Q x
theorem parts_last {α : Type} {P : Program} {d : Kd α} {f : Field} {o : Nat} {Q : α → Prop} (h : Opens P d f.type Q) (ho : f.offset = o) (hs : P.cellsOf f.type = d.sz) : Parts P d [f] o Q := ⟨fun e => by
  simp only [List.mapM_cons, Option.bind_eq_bind, Option.bind_eq_some_iff] at e
  obtain ⟨y, hy, _⟩ := e
  rw [ho, hs] at hy
  exact h.of hy⟩
theorem parts_cons {α β : Type} {P : Program} {a : Kd α} {b : Kd β} {f : Field} {fs : List Field} {o : Nat} {Q : α → Prop} {R : β → Prop} (h : Opens P a f.type Q) (ho : f.offset = o) (hs : P.cellsOf f.type = a.sz) (hr : Parts P b fs (o + a.sz) R) :
    Parts P (Kd.pair a b) (f :: fs) o (fun x => Q x.1 ∧ R x.2) := ⟨fun {_ _ _ _ _ _ _ cs _} e => by
  simp only [List.mapM_cons, Option.bind_eq_bind, Option.bind_eq_some_iff] at e
  obtain ⟨y, hy, ys, hys, _⟩ := e
  rw [ho, hs] at hy
  obtain ⟨x, hx, q⟩ := h.of hy
  obtain ⟨z, hz, r⟩ := hr.of hys
  refine ⟨(x, z), ⟨_, _, ?_, hx, hz⟩, q, r⟩
  show (cs.drop o).take (a.sz + b.sz) = _
  rw [List.take_add, List.drop_drop]⟩
theorem parts_iso {α β : Type} {P : Program} {d : Kd α} {fs : List Field} {o : Nat} {Q : α → Prop} (f : β → α) (g : α → β) (hg : ∀ x, f (g x) = x) (h : Parts P d fs o Q) : Parts P (Kd.iso d f) fs o (fun x => Q (f x)) := ⟨fun e => by
  obtain ⟨x, hx, q⟩ := h.of e
  refine ⟨g x, ?_, ?_⟩
  · show d.K _ (f (g x)) _
    rw [hg]
    exact hx
  · show Q (f (g x))
    rw [hg]
    exact q⟩
theorem opens_struct {α : Type} {P : Program} {d : Kd α} {T : TypeId} {fs : Array Field} {Q : α → Prop} (hu : P.underlying T = some (.struct fs)) (hs : P.cellsOf T = d.sz) (h : Parts P d fs.toList 0 Q) : Opens P d T Q := ⟨fun {_ enc W base spare held fuel cs y} e => by
  cases fuel with
  | zero => simp [DataW.trod] at e
  | succ n =>
    unfold DataW.trod at e
    rw [hu] at e
    have e' : (if cs.length = P.cellsOf T then (fs.toList.mapM fun f => DataW.trod enc P W base spare held n f.type ((cs.drop f.offset).take (P.cellsOf f.type))).map fun xs => (DataW.agg (xs.map (·.1)), xs.flatMap (·.2)) else none) = some y := by
      split at e <;> first | exact e | simp_all
    split at e'
    · rename_i hl
      obtain ⟨ys, hys, _⟩ := Option.map_eq_some_iff.1 e'
      obtain ⟨x, hx, q⟩ := h.of hys
      rw [List.drop_zero, List.take_of_length_le (by omega)] at hx
      exact ⟨x, hx, q⟩
    · cases e'⟩
theorem choose_list {α : Type} (p : Nat → α → Prop) : ∀ n : Nat, (∀ i, i < n → ∃ x, p i x) → ∃ xs : List α, xs.length = n ∧ ∀ i x, xs[i]? = some x → p i x
  | 0, _ => ⟨[], rfl, fun i x h => by simp at h⟩
  | n + 1, h => by
    obtain ⟨xs, hl, hx⟩ := choose_list p n (fun i hi => h i (by omega))
    obtain ⟨x, hp⟩ := h n (by omega)
    refine ⟨xs ++ [x], by simp [hl], fun i y hy => ?_⟩
    by_cases hi : i < n
    · rw [List.getElem?_append_left (by omega)] at hy
      exact hx i y hy
    · rw [List.getElem?_append_right (by omega)] at hy
      have : i - xs.length = 0 := by
        have := (List.getElem?_eq_some_iff.1 hy).1
        simp at this
        omega
      rw [this] at hy
      obtain rfl : x = y := by simpa using hy
      have : i = n := by omega
      subst this
      exact hp
theorem opens_slice {α : Type} {P : Program} {d : Kd α} {T e : TypeId} {Q : α → Prop} (hu : P.underlying T = some (.slice e)) (hs : P.cellsOf e = d.sz) (h : Opens P d e Q) : Opens P (Kd.slice e d) T (fun xs => xs.length ≤ maxLen ∧ ∀ x ∈ xs, Q x) := ⟨fun {_ _ W _ _ _ _ _ _} ht => by
  rcases DataW.trod_slice hu ht with ⟨rfl, _⟩ | ⟨a, len, cap, elems, rest, n, _, rfl, _, hb, hl, hm, hlen, hel, _, _⟩
  · exact ⟨[], ⟨none, 0, rfl, Nat.le_refl _, rfl, Nat.zero_le _, fun hp => absurd hp (by simp)⟩, Nat.zero_le _, fun x hx => by simp at hx⟩
  · have key : ∀ i, i < len → ∃ x : α, (∃ c, c.length = d.sz ∧ d.K W x c ∧ ∀ j u, c[j]? = some u → W.cell? (a.add (i * d.sz + j)) = some u) ∧ Q x := by
      intro i hi
      have h1 := hel i hi
      rw [List.getElem?_eq_getElem (by omega), Option.bind_eq_some_iff] at h1
      obtain ⟨cs', hcs, hy⟩ := h1
      obtain ⟨x, hx, q⟩ := h.of hy
      obtain ⟨_, hcl, hce⟩ := World.cells?_some hcs
      refine ⟨x, ⟨cs', d.K_len hx, hx, fun j u hj => ?_⟩, q⟩
      have hj' : j < P.cellsOf e := by
        have := (List.getElem?_eq_some_iff.1 hj).1
        omega
      have := hce j hj'
      rw [Addr.add_add, hs] at this
      rw [this]
      exact hj
    obtain ⟨xs, hxl, hx⟩ := choose_list _ len key
    subst hxl
    refine ⟨xs, ⟨some a, cap, rfl, hl, rfl, by simp only [maxLen] at hm; omega, fun _ => ⟨a, rfl, fun j p hj => (hx j p hj).1⟩⟩, by omega, fun x hm => ?_⟩
    obtain ⟨i, hi⟩ := List.getElem?_of_mem hm
    exact (hx i x hi).2⟩
/-- An array of n whole numbers. -/
theorem open_array {H : Type} {enc : TypeId × Value → H} {P : Program} {W : World} {base : Nat} {spare : Nat → Bool} {held : Bool} {fuel : Nat} {cs : List Value} {y : DataW H × List MemPlace} {n : Nat} {T e : TypeId} {k : IntKind}
    (hu : P.underlying T = some (.array n e)) (he : P.underlying e = some (.int k)) (hc : P.cellsOf e = 1) (hT : P.cellsOf T = n) (h : DataW.trod enc P W base spare held fuel T cs = some y) :
    ∃ xs : List Int, xs.length = n ∧ cs = xs.map (Value.int k) ∧ ∀ x ∈ xs, (Lit.int k x).wf = true := by
  obtain ⟨ys, m, _, _, hl, hyl, hx⟩ := DataW.trod_array hu h
  rw [hT] at hl
  have key : ∀ i, i < n → ∃ x : Int, cs[i]? = some (.int k x) ∧ (Lit.int k x).wf = true := by
    intro i hi
    have h1 := hx i hi
    rw [hc, Nat.mul_one, List.getElem?_eq_getElem (by omega)] at h1
    obtain ⟨z, hz, _, hw⟩ := DataW.trod_int he h1
    refine ⟨z, ?_, hw⟩
    have h2 : ((cs.drop i).take 1)[0]? = some (.int k z) := by rw [hz]; rfl
    rw [List.getElem?_take_of_lt (by omega), List.getElem?_drop] at h2
    exact h2
  obtain ⟨xs, hxl, hp⟩ := choose_list _ n key
  refine ⟨xs, hxl, ?_, fun x hm => ?_⟩
  · apply List.ext_getElem?
    intro i
    by_cases hi : i < n
    · rw [(hp i _ (List.getElem?_eq_getElem (by omega))).1, List.getElem?_map, List.getElem?_eq_getElem (by omega)]
      rfl
    · rw [List.getElem?_eq_none (by omega), List.getElem?_eq_none (by simp; omega)]
  · obtain ⟨i, hi⟩ := List.getElem?_of_mem hm
    exact (hp i x hi).2
theorem okWide_agg {P : Program} {w : World} {r : Reach} {base : Nat} {t : TypeId} {v : Value} (ht : (∃ fs, P.underlying t = some (.struct fs)) ∨ ∃ n e, P.underlying t = some (.array n e)) (h : Value.okWide P w r base t v) : ∃ cs, v = .agg cs := by
  rcases ht with ⟨fs, ht⟩ | ⟨n, e, ht⟩
  · simp only [Value.okWide, ht] at h
    obtain ⟨cs, h1, _⟩ := h
    exact ⟨cs, h1⟩
  · simp only [Value.okWide, ht] at h
    obtain ⟨cs, h1, _⟩ := h
    exact ⟨cs, h1⟩
end Go.Proofs.Ythnojbbfmcapnaa.Open
