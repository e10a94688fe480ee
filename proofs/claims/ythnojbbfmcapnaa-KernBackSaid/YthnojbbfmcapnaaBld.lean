/- A strings.Builder that the call has made (alone, or at the begin of a variable of type T): what its methods do to it. After the shelf's walks, turned to this program. -/
import Derived.Test.YthnojbbfmcapnaaProg
import Derived.Lib.FrozenHead
import Derived.Lib.Walk
import Derived.Lib.Strings
import Derived.Lib.Slices
import Derived.Lib.OthersKept
import Derived.WalkKit
import Derived.KernelRfl
import Derived.Laws.Externs
import Derived.RegionTactic
import Derived.Deep.Draws
import Derived.Below
namespace Go.Proofs.Ythnojbbfmcapnaa.Bld
open Go.RowKit
set_option linter.unusedVariables false
set_option linter.unusedSimpArgs false
abbrev Bd (T B b : Nat) (bs : List Value) (w : World) : Prop := Lib.IsBuilderF T 5 B b bs w
theorem Bd.step {T B b : Nat} {bs : List Value} {w w' : World} (h : Bd T B b bs w) (hb : ∀ k, k < w.heap.size → w'.heap[k]? = w.heap[k]?) : Bd T B b bs w' := by
  have at_ : ∀ {p : Value}, Lib.BuilderAtF T 5 B b p bs w → Lib.BuilderAtF T 5 B b p bs w' := by
    rintro p ⟨h1, v, h2, ⟨h3, h4⟩, h5⟩
    refine ⟨h1, v, (hb b (Array.getElem?_eq_some_iff.1 h2).1).trans h2, ⟨h3, ?_⟩, h5⟩
    rcases h4 with h4 | ⟨g, cap, cur, fz, e1, e2, e3, e4⟩
    · exact .inl h4
    · exact .inr ⟨g, cap, cur, fz, e1, e2, (hb g (Array.getElem?_eq_some_iff.1 e3).1).trans e3, e4⟩
  rcases h with h | h
  · exact .inl (at_ h)
  · exact .inr (at_ h)
theorem Bd.below {T B b : Nat} {bs : List Value} {w w' : World} (h : Bd T B b bs w) (hb : Below w.heap.size w w') : Bd T B b bs w' := h.step (fun k hk => hb.block k hk)
theorem Bd.alloc {T B b : Nat} {bs : List Value} {w : World} (h : Bd T B b bs w) (o : Obj) : Bd T B b bs (w.alloc o) := h.step (fun k hk => Lib.alloc_old w o k hk)
theorem Bd.drewN {T B b : Nat} {bs : List Value} {w : World} (h : Bd T B b bs w) (n : Nat) : Bd T B b bs (w.drewN n) := h.step (fun _ _ => rfl)
theorem Bd.lt {T B b : Nat} {bs : List Value} {w : World} (h : Bd T B b bs w) : b < w.heap.size := by
  rcases h with h | h
  · exact h.lt
  · exact h.lt
theorem Bd.far {T B b : Nat} {bs : List Value} {w : World} (h : Bd T B b bs w) {a : Addr} {cs : Array Value} {t : TypeId} {fz : Nat × Nat} (ha : w.heap[a.block]? = some (.cells cs t fz)) (ht : t ≠ T) (hu : t ≠ 5) (v : Value) : Bd T B b bs (w.setCell a v) := by
  have at_ : ∀ {p : Value}, Lib.BuilderAtF T 5 B b p bs w → Lib.BuilderAtF T 5 B b p bs (w.setCell a v) := by
    rintro p ⟨h1, u, h2, ⟨h3, h4⟩, h5⟩
    refine ⟨h1, u, ?_, ⟨h3, ?_⟩, h5⟩
    · rw [Below.heap_setCell _ _ _ _ (fun e => by subst e; rw [h2] at ha; cases ha; exact ht rfl)]
      exact h2
    · rcases h4 with h4 | ⟨g, cap, cur, fz', e1, e2, e3, e4⟩
      · exact .inl h4
      · refine .inr ⟨g, cap, cur, fz', e1, e2, ?_, e4⟩
        rw [Below.heap_setCell _ _ _ _ (fun e => by subst e; rw [e3] at ha; cases ha; exact hu rfl)]
        exact e3
  rcases h with h | h
  · exact .inl (at_ h)
  · exact .inr (at_ h)
/-- A fresh one. -/
theorem Bd.fresh {T B : Nat} {w : World} (hB : B ≤ w.heap.size) : Bd T B w.heap.size [] (w.alloc (.cells #[.pointer none, .slice none 0 0] T)) :=
  .inl ⟨hB, .slice none 0 0, heap_alloc_new w _, World.ownsRowF_nil _ _ _ _, by simp [Value.ownBlock]⟩

theorem info5 : (Try.prog.info? 5).map (fun i => (i.zero, i.size, i.bytes)) = some (some (.int .u8 0), 1, 1) := by kernel_rfl
theorem sizeB : (Try.prog.info? 50).map (fun i => i.size) = some 2 := by kernel_rfl
theorem sizeU : (Try.prog.info? 5).map (fun i => i.size) = some 1 := by kernel_rfl
set_option maxHeartbeats 1000000 in
set_option maxRecDepth 100000 in
theorem check_fresh (T : Nat) (hT : liesAt Try.prog Try.prog.depth T (2 / Try.prog.cellsOf T) 0 50 1 = true) (b : Nat) (w : World) (h0 : w.cell? ⟨b, 0, none⟩ = some (.pointer none)) (hsh : w.shape? b = some (T, 2)) (hfz : w.frozen? ⟨b, 0, none⟩ = false) :
    Calls Try.prog 37 #[.pointer (some ⟨b, 0, none⟩)] w fun e w' => e = .returned (.tuple #[]) ∧ w' = w.setCell ⟨b, 0, none⟩ (.pointer (some ⟨b, 0, none⟩)) := by
  obtain ⟨j, hj, hjs⟩ := Option.map_eq_some_iff.1 sizeB
  have hc1 := Lib.run_to_unsafe (P := Try.prog) w ⟨b, 0, none⟩ Try.underlying47 Try.underlying93 hj (by rw [hjs]; decide) hsh (Nat.zero_lt_succ 1)
  have hc2 := Lib.run_from_unsafe (P := Try.prog) w ⟨b, 0, none⟩ Try.underlying93 Try.underlying47 hj hsh hT
  clear hj hjs
  go_enter Try.func37, Try.ntmps37
  go_wp2
  rw [run_callFunc_extern Try.func47 (by kernel_rfl) (by kernel_rfl) (by kernel_rfl) (e := Extern.AbiNoEscape.same) (by kernel_rfl)]
  rw [Lib.run_noEscape]
  simp only [Result.andThen]
  rw [Oper.upon_value]
  go_wp2
  go_end0
  exact ⟨rfl, rfl⟩
set_option maxHeartbeats 1000000 in
set_option maxRecDepth 100000 in
theorem check_used (b : Nat) (w : World) (h0 : w.cell? ⟨b, 0, none⟩ = some (.pointer (some ⟨b, 0, none⟩))) :
    Calls Try.prog 37 #[.pointer (some ⟨b, 0, none⟩)] w fun e w' => e = .returned (.tuple #[]) ∧ w' = w := by
  obtain ⟨j, hj, _⟩ := Option.map_eq_some_iff.1 sizeB
  have hn := Lib.run_neq_ptr_same (P := Try.prog) w ⟨b, 0, none⟩ Try.underlying47 hj
  clear hj
  go_enter Try.func37, Try.ntmps37
  go_wp2
  go_end0
  exact ⟨rfl, rfl⟩
theorem check_ (T : Nat) (hT : liesAt Try.prog Try.prog.depth T (2 / Try.prog.cellsOf T) 0 50 1 = true) (B b : Nat) (bs : List Value) (w : World) (h : Bd T B b bs w) :
    Calls Try.prog 37 #[.pointer (some ⟨b, 0, none⟩)] w fun e w' => e = .returned (.tuple #[]) ∧ (Lib.BuilderAtF T 5 B b (.pointer (some ⟨b, 0, none⟩)) bs w' ∧ Below B w w' ∧ Lib.OthersKept 5 (some b) w w') := by
  rcases h with h | h
  · refine (check_fresh T hT b w h.cell0 h.shape h.frozen0).mono ?_
    rintro e w' ⟨rfl, rfl⟩
    exact ⟨rfl, h.used _, (Below.refl B w).setCell (p := ⟨b, 0, none⟩) h.1 _, (Lib.OthersKept.refl _ _ w).setCell ⟨b, 0, none⟩ rfl _⟩
  · refine (check_used b w h.cell0).mono ?_
    rintro e w' ⟨rfl, rfl⟩
    exact ⟨rfl, h, Below.refl B _, Lib.OthersKept.refl _ _ _⟩
set_option maxHeartbeats 2000000 in
set_option maxRecDepth 100000 in
/-- WriteString. -/
theorem write_ (T : Nat) (hT : liesAt Try.prog Try.prog.depth T (2 / Try.prog.cellsOf T) 0 50 1 = true) (hne : T ≠ 5) (B b : Nat) (bs : List Value) (s : ByteArray) (w : World) (h : Bd T B b bs w) (hlen : bs.length + s.size ≤ 140737488355328) (hBw : B ≤ w.heap.size) :
    Calls Try.prog 19 #[.pointer (some ⟨b, 0, none⟩), .string s] w fun e w' => e = .returned (.tuple #[.int .i64 s.size, .nilIface]) ∧ (Bd T B b (bs ++ Lib.strCells s) w' ∧ Below B w w' ∧ Lib.OthersKept 5 (some b) w w') := by
  obtain ⟨i0, hi, hz0, hz1, hz2⟩ := info_parts info5
  go_enter Try.func19, Try.ntmps19
  go_wp2_with (go_at_call 37; refine (check_ T hT B b bs _ h).mono ?_)
  rintro e w1 ⟨rfl, h1, hb1, hk1⟩
  obtain ⟨hB, v, hbk, hown, hnb⟩ := h1
  have c0 : w1.cell? ⟨b, 0, none⟩ = some (.pointer (some ⟨b, 0, none⟩)) := by rw [Lib.cell_of_heap hbk]; rfl
  have c1 : w1.cell? ⟨b, 1, none⟩ = some v := by rw [Lib.cell_of_heap hbk]; rfl
  go_wp2_with (at_builtin; refine Lib.wpList_append_own_stringF _ rfl _ _ 48 9 rfl B 5 i0 Try.underlying48 Try.underlying9 hi hz0 hz1 hz2 _ _ _ rfl hown s rfl ?c3 ?c4 ?c5 ?_)
  case c3 => unfold maxLen; omega
  case c4 => omega
  case c5 => have := hb1.size; omega
  intro v' w2 hown' hgrow _
  have hlt : b < w1.heap.size := (Array.getElem?_eq_some_iff.1 hbk).1
  have hb2 : w2.heap[b]? = some (.cells #[.pointer (some ⟨b, 0, none⟩), v] T (0, 0)) := by
    rw [hgrow.block b hlt (fun e => hnb e.symm)]
    exact hbk
  have d0 : w2.cell? ⟨b, 0, none⟩ = some (.pointer (some ⟨b, 0, none⟩)) := by rw [Lib.cell_of_heap hb2]; rfl
  have d1 : w2.cell? ⟨b, 1, none⟩ = some v := by rw [Lib.cell_of_heap hb2]; rfl
  have f1 : w2.frozen? ⟨b, 1, none⟩ = false := Lib.frozen_of_heap hb2 1
  obtain ⟨ao, n', cap, rfl⟩ : ∃ ao n' cap, v' = .slice ao n' cap := by
    rcases hown'.2 with ⟨hv, _⟩ | ⟨g, cap, cur, fz, hv, _⟩
    · exact ⟨_, _, _, hv⟩
    · exact ⟨_, _, _, hv⟩
  go_wp2
  go_ret2
  refine ⟨rfl, .inr ?_, ?_, (hk1.grown hgrow (Lib.ownsRowF_kind hown)).setCell ⟨b, 1, none⟩ rfl _⟩
  · exact Lib.BuilderAtF.put (T := T) (e := 5) hB hb2 (bs' := bs ++ Lib.strCells s) (by simpa [Lib.strCells_length] using hown') hne
  · exact (hb1.grown hgrow (by have := hb1.size; omega) (fun k hk => (hown.lt k hk).1)).setCell (p := ⟨b, 1, none⟩) hB _
set_option maxHeartbeats 1000000 in
set_option maxRecDepth 100000 in
/-- String, where at least one byte is held. -/
theorem string_ (T B b : Nat) (l : List UInt8) (w : World) (h : Bd T B b (Lib.byteCells l) w) (h0 : l ≠ []) :
    Calls Try.prog 22 #[.pointer (some ⟨b, 0, none⟩)] w fun e w' => e = .returned (.string ⟨l.toArray⟩) ∧ (Bd T B b (Lib.byteCells l) w' ∧ Below B w w' ∧ Lib.OthersKept 5 (some b) w w') := by
  obtain ⟨p, hp, hAt⟩ : ∃ p, (p = .pointer none ∨ p = .pointer (some ⟨b, 0, none⟩)) ∧ Lib.BuilderAtF T 5 B b p (Lib.byteCells l) w := by
    rcases h with h | h
    · exact ⟨_, .inl rfl, h⟩
    · exact ⟨_, .inr rfl, h⟩
  obtain ⟨hB, v, hbk, hown, hne⟩ := hAt
  have hl0 : l.length ≠ 0 := by simpa using h0
  rw [Lib.byteCells_length] at hown
  obtain ⟨g, cap, cur, fz, rfl, hbg, hg, hfz, hnc, hcm, hcs, htake⟩ : ∃ g cap cur fz, v = .slice (some ⟨g, 0, none⟩) l.length cap ∧ B ≤ g ∧ w.heap[g]? = some (.cells cur 5 fz) ∧ fz.2 ≤ l.length * 1 ∧ l.length ≤ cap ∧ cap ≤ maxLen ∧ cur.size = cap * 1 ∧ cur.toList.take (l.length * 1) = Lib.byteCells l := by
    rcases hown.2 with ⟨_, hz⟩ | ⟨g, cap, cur, fz, hv, r⟩
    · exact absurd hz hl0
    · exact ⟨g, cap, cur, fz, hv, r⟩
  have c1 : w.drew.cell? ⟨b, 1, none⟩ = some (.slice (some ⟨g, 0, none⟩) l.length cap) := by
    have : w.drew.heap[b]? = some (.cells #[p, .slice (some ⟨g, 0, none⟩) l.length cap] T (0, 0)) := hbk
    rw [Lib.cell_of_heap this]; rfl
  have hSD : (Builtin.unsafeSliceData_ #[48] 79 #[.slice (some ⟨g, 0, none⟩) l.length cap]).run Try.prog w.drew = .ok (.pointer (some ⟨g, 0, none⟩)) w.drew :=
    Lib.run_unsafeSliceData_row _ _ _ _ _ _ (by omega)
  have hUS : (Builtin.unsafeString_ #[79, 3] 9 #[.pointer (some ⟨g, 0, none⟩), .int .i64 l.length]).run Try.prog w.drew = .ok (.string ⟨l.toArray⟩) (w.drew.freeze ⟨g, 0, none⟩ l.length) := by
    refine Lib.run_unsafeString_row w.drew 79 3 9 5 Try.underlying79 (by kernel_rfl) g cur.size (by have hg' : w.drew.heap[g]? = some (.cells cur 5 fz) := hg; simp [World.shape?, hg']) l h0 (by omega) (by unfold maxLen at hcm; omega) ?_
    intro j x hx
    have := hown.cells (g := g) rfl j (.int .u8 x.toNat) (by simp [Lib.byteCells, hx])
    exact this
  have hkeep : Bd T B b (Lib.byteCells l) (w.drew.freeze ⟨g, 0, none⟩ l.length) := by
    have hA : Lib.BuilderAtF T 5 B b p (Lib.byteCells l) w.drew := ⟨hB, _, hbk, by rw [Lib.byteCells_length]; exact hown, hne⟩
    have hF := hA.froze (g := g) (cap := cap) (by rw [Lib.byteCells_length]; exact c1)
    rw [Lib.byteCells_length] at hF
    rcases hp with rfl | rfl
    · exact .inl hF
    · exact .inr hF
  have hol : Lib.OthersKept 5 (some b) w (w.drew.freeze ⟨g, 0, none⟩ l.length) := ((Lib.OthersKept.refl _ _ w).drew).freeze ⟨g, 0, none⟩ _ ⟨cur, fz, hg⟩
  clear hown hfz hnc hcm hcs htake
  go_enter Try.func22, Try.ntmps22
  go_wp2
  go_region
  all_goals (go_wp2; go_ret; exact ⟨rfl, hkeep, Lib.below_freeze (Below.drew (Below.refl B w)) (p := ⟨g, 0, none⟩) hbg _, hol⟩)
end Go.Proofs.Ythnojbbfmcapnaa.Bld
