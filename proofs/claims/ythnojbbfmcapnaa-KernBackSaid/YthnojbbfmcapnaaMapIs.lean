/- A map of the call's own, told as a function from keys to what its elements hold: made, looked up, stored into, counted. -/
import Derived.Maps.OwnSet
import Derived.Maps.Views
import Derived.DeepKeys4
namespace Go.Proofs.Ythnojbbfmcapnaa.MapIs
open Go.Maps
/-- Each element reads as itself. -/
def HeldE (v : Value) : Option (DataW Value × List MemPlace) := some (.held v, [])
/-- Block b is a map of at most n entries, of s just now, that holds f. -/
structure MapIs (P : Program) (k : TypeId) (w : World) (b n s : Nat) (f : Lit → Option Value) : Prop where
  of : ∃ D : DataW Value, w.ownsMap P k HeldE b n D ∧ (∀ l, has D l = (f l).isSome) ∧ (∀ l v, f l = some v → ∀ z, D.atKey l z = .held v) ∧ size D = s
section
variable {P : Program} {k : TypeId} {w w' : World} {b n s : Nat} {f : Lit → Option Value}
theorem made (w : World) (P : Program) (k : TypeId) : MapIs P k (w.alloc (.map #[] 0)) w.heap.size 0 0 (fun _ => none) :=
  ⟨.map [], World.ownsMap_made w P k HeldE, fun _ => rfl, fun _ _ h => (by cases h), rfl⟩
theorem MapIs.lt (h : MapIs P k w b n s f) : b < w.heap.size := by
  obtain ⟨D, h1, _⟩ := h.of
  exact h1.lt
theorem MapIs.size_le (h : MapIs P k w b n s f) : s ≤ n := by
  obtain ⟨D, h1, _, _, h2⟩ := h.of
  rw [← h2]
  exact h1.size_le
theorem MapIs.kept {row : Option Nat} (h : MapIs P k w b n s f) (hg : w.grownBy w' row) (hne : some b ≠ row) : MapIs P k w' b n s f := by
  obtain ⟨D, h1, h2⟩ := h.of
  exact ⟨D, h1.kept hg hne, h2⟩
theorem MapIs.move (h : MapIs P k w b n s f) (hb : w'.heap[b]? = w.heap[b]?) : MapIs P k w' b n s f := by
  obtain ⟨D, ⟨es, clock, h1, h1'⟩, h2⟩ := h.of
  exact ⟨D, ⟨es, clock, hb.trans h1, h1'⟩, h2⟩
theorem MapIs.alloc (h : MapIs P k w b n s f) (o : Obj) : MapIs P k (w.alloc o) b n s f := h.move (MapKept.heap_alloc w o |>.2 b h.lt)
theorem MapIs.setCell (h : MapIs P k w b n s f) {a : Addr} (ha : b ≠ a.block) (u : Value) : MapIs P k (w.setCell a u) b n s f := h.move (RowKit.Below.heap_setCell _ _ _ _ ha)
theorem MapIs.below {B : Nat} (h : MapIs P k w b n s f) (hb : RowKit.Below B w w') (hB : b < B) : MapIs P k w' b n s f := h.move (hb.block b hB)
theorem MapIs.congr {g : Lit → Option Value} (h : MapIs P k w b n s f) (hg : ∀ l, g l = f l) : MapIs P k w b n s g := by
  have : g = f := funext hg
  rw [this]
  exact h
variable {t e : TypeId}
theorem MapIs.look (h : MapIs P k w b n s f) (K : Keyed P k) (ht : P.underlying t = some (.map k e)) {z : Value} (hz : (zeroValue e).run P w = .ok z w) {key : Value} {kl : Lit} (hkey : keyOf P k key = some kl) :
    (Instr.lookup t (.map (some b)) key false).run P w = .ok ((f kl).getD z) w := by
  obtain ⟨D, h1, h2, h3, _⟩ := h.of
  obtain ⟨v, ps, hr, hv⟩ := h1.lookup K ht hz (zd := .held z) (zp := []) rfl hkey
  rw [hr]
  have hv' : DataW.held v = D.atKey kl (.held z) := by
    have := congrArg (fun x => x.map Prod.fst) hv
    simpa [HeldE] using this
  cases hf : f kl with
  | none =>
    rw [atKey_of_not_has (by rw [h2, hf]; rfl)] at hv'
    cases hv'
    rfl
  | some u =>
    rw [h3 _ _ hf] at hv'
    cases hv'
    rfl
theorem MapIs.look_ok (h : MapIs P k w b n s f) (K : Keyed P k) (ht : P.underlying t = some (.map k e)) {z : Value} (hz : (zeroValue e).run P w = .ok z w) {key : Value} {kl : Lit} (hkey : keyOf P k key = some kl) :
    (Instr.lookup t (.map (some b)) key true).run P w = .ok (.tuple #[(f kl).getD z, .bool (f kl).isSome]) w := by
  obtain ⟨D, h1, h2, h3, _⟩ := h.of
  obtain ⟨v, ps, hr, hv⟩ := h1.look_ok K ht hz (zd := .held z) (zp := []) rfl hkey
  rw [hr, h2]
  have hv' : DataW.held v = D.atKey kl (.held z) := by
    have := congrArg (fun x => x.map Prod.fst) hv
    simpa [HeldE] using this
  cases hf : f kl with
  | none =>
    rw [atKey_of_not_has (by rw [h2, hf]; rfl)] at hv'
    cases hv'
    rfl
  | some u =>
    rw [h3 _ _ hf] at hv'
    cases hv'
    rfl
open Classical in
theorem MapIs.store (h : MapIs P k w b n s f) (K : Keyed P k) (ht : P.underlying t = some (.map k e)) (hn : n < maxLen) {key : Value} {kl : Lit} (hkey : keyOf P k key = some kl) (val : Value) :
    ∃ w', (Instr.mapUpdate t (.map (some b)) key val).run P w = .ok () w' ∧ MapIs P k w' b (n + 1) (if (f kl).isSome then s else s + 1) (fun l => if l = kl then some val else f l) ∧ w.mapTurned w' b := by
  obtain ⟨D, h1, h2, h3, h4⟩ := h.of
  obtain ⟨w', hr, ho, hg⟩ := h1.store K ht hn hkey (val := val) (d := .held val) (ps := []) rfl
  refine ⟨w', hr, ⟨_, ho, fun l => ?_, fun l v hl z => ?_, ?_⟩, hg⟩
  · by_cases hl : l = kl
    · subst hl
      rw [has_put_same h1.isMap (K.key hkey), if_pos rfl]
      rfl
    · rw [has_put_other hl, if_neg hl, h2]
  · by_cases hl' : l = kl
    · subst hl'
      rw [if_pos rfl] at hl
      cases hl
      exact atKey_put_same h1.isMap (K.key hkey) _ _
    · rw [if_neg hl'] at hl
      rw [atKey_put_other hl', h3 _ _ hl]
  · rw [size_put (h1.tidy K), h2, h4]
theorem MapIs.len (h : MapIs P k w b n s f) (ht : P.underlying t = some (.map k e)) (ty : TypeId) : (Builtin.len_ #[t] ty #[.map (some b)]).run P w = .ok (.int .i64 s) w := by
  obtain ⟨D, h1, _, _, h2⟩ := h.of
  rw [h1.len ht, h2]
end
/-! At the operation. -/
section
variable {P : Program} {w : World} {ops : Array Oper} {rest : List Oper} {o : Oper} {a : Act} {Q : Exit → Act → World → Prop} {k e t : TypeId} {b n s : Nat} {f : Lit → Option Value}
theorem wp_look (m x : Operand) (hg : o.guard = none) (hop : o.op = Op.lookup t m x false) (K : Keyed P k) (ht : P.underlying t = some (.map k e)) {z : Value} (hz : (zeroValue e).run P w = .ok z w)
    (h : MapIs P k w b n s f) (hm : a.eval m = .map (some b)) {key : Value} {kl : Lit} (hx : a.eval x = key) (hkey : keyOf P k key = some kl) (u : Value) (hu : (f kl).getD z = u)
    (hK : wpList P ops Q rest (a.put o.dst u) w) : wpList P ops Q (o :: rest) a w := by
  refine wpList_plain hg fun K' hK' => ?_
  have hrun := h.look K ht hz hkey
  rw [hu] at hrun
  unfold Oper.wp
  simp [execOp, hop, hm, hx, hrun, Result.andThen]
  exact hK' _ _ hK
theorem wp_look_ok (m x : Operand) (hg : o.guard = none) (hop : o.op = Op.lookup t m x true) (K : Keyed P k) (ht : P.underlying t = some (.map k e)) {z : Value} (hz : (zeroValue e).run P w = .ok z w)
    (h : MapIs P k w b n s f) (hm : a.eval m = .map (some b)) {key : Value} {kl : Lit} (hx : a.eval x = key) (hkey : keyOf P k key = some kl) (u : Value) (c : Bool) (hu : (f kl).getD z = u) (hc : (f kl).isSome = c)
    (hK : wpList P ops Q rest (a.put o.dst (.tuple #[u, .bool c])) w) : wpList P ops Q (o :: rest) a w := by
  refine wpList_plain hg fun K' hK' => ?_
  have hrun := h.look_ok K ht hz hkey
  rw [hu, hc] at hrun
  unfold Oper.wp
  simp [execOp, hop, hm, hx, hrun, Result.andThen]
  exact hK' _ _ hK
open Classical in
theorem wp_store (m x v : Operand) (hg : o.guard = none) (hop : o.op = Op.mapUpdate t m x v) (K : Keyed P k) (ht : P.underlying t = some (.map k e))
    (h : MapIs P k w b n s f) (hn : n < maxLen) (hm : a.eval m = .map (some b)) {key val : Value} {kl : Lit} (hx : a.eval x = key) (hv : a.eval v = val) (hkey : keyOf P k key = some kl)
    (hK : ∀ w', MapIs P k w' b (n + 1) (if (f kl).isSome then s else s + 1) (fun l => if l = kl then some val else f l) → w.mapTurned w' b → wpList P ops Q rest (a.put o.dst undef) w') : wpList P ops Q (o :: rest) a w := by
  refine wpList_plain hg fun K' hK' => ?_
  obtain ⟨w', hrun, r1, r2⟩ := h.store K ht hn hkey val
  unfold Oper.wp
  simp [execOp, hop, hm, hx, hv, hrun, Result.andThen]
  exact hK' _ _ (hK w' r1 r2)
theorem wp_len (m : Operand) (hg : o.guard = none) (hop : o.op = Op.call { callee := Callee.builtin Builtin.len, args := #[m], argTypes := #[t] }) (ht : P.underlying t = some (.map k e))
    (h : MapIs P k w b n s f) (hm : a.eval m = .map (some b)) (hK : wpList P ops Q rest (a.put o.dst (.int .i64 s)) w) : wpList P ops Q (o :: rest) a w := by
  refine wpList_plain hg fun K' hK' => ?_
  unfold Oper.wp
  simp [execOp, hop, resolve, invoke, builtin, hm, h.len ht o.type, Result.andThen]
  exact hK' _ _ hK
end
end Go.Proofs.Ythnojbbfmcapnaa.MapIs
