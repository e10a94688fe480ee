-- printed by a program of this session's (wip/mp.sh), out of the translation; the texts of its folder 'given' are typed by hand
-- shortened (wip/short.py)
import Derived.Test.YthnojbbfmcapnaaPr0
import Derived.Test.YthnojbbfmcapnaaPr6
import Derived.Test.YthnojbbfmcapnaaPr7
import Derived.Test.YthnojbbfmcapnaaPr11
import Derived.Test.YthnojbbfmcapnaaBld
namespace Go.Proofs.Ythnojbbfmcapnaa.Pr
open Go.RowKit Go.Proofs.YthnojbbfmcapnaaW.PrintWords Go.Proofs.YthnojbbfmcapnaaW.PrintLast Go.Proofs.YthnojbbfmcapnaaW.PrintMore
attribute [local go_sem] max2_int min2_int max_two min_two max_three min_three max_four min_four   -- for this text's walks alone
set_option linter.unusedVariables false
set_option linter.unusedSimpArgs false

/-! ### kern_Make: function 7 -/
def kern_Make.l0 : Nat → List (S41) → Int → ByteArray → Option (ByteArray × Int)
 | 0, _, _, _ => none
 | k + 1, l, i, acc => if i < (l.length : Int) then (if 0 ≤ i then ((kern_p16.f k [(rd_T41 l i).f0, (rd_T41 l i).f1, (rd_T41 l i).f2]).bind fun s => (if acc.size + s.size ≤ 140737488355328 then kern_Make.l0 k l (wrap64 (i + 1)) (acc ++ s) else none)) else none) else (if acc.data.toList = [] then none else some (acc, 0))
def kern_Make.f (k : Nat) (l0 : List (S41)) : Option (ByteArray × Int) := (kern_May.f k l0 1024).bind fun t => (if t = true then ((kern_ahead.f k (l0.length : Int)).bind fun s => (if s.size ≤ 140737488355328 then kern_Make.l0 k l0 0 s else none)) else some ((⟨#[]⟩ : ByteArray), 1))
theorem kern_Make.mono_l : ∀ (k : Nat) l i acc, LeO (kern_Make.l0 k l i acc) (kern_Make.l0 (k + 1) l i acc)
 | 0, _, _, _ => fun r h => by simp [kern_Make.l0] at h
 | k + 1, l, i, acc => by
  unfold kern_Make.l0
  repeat' first
   | (with_reducible exact kern_Make.mono_l k _ _ _)
   | (with_reducible exact kern_p16.mono _ _)
   | exact LeO.refl _
   | refine LeO.ite ?_ ?_
   | refine LeO.bind ?_ (fun _ => ?_)
theorem kern_Make.mono : ∀ l k, LeO (kern_Make.f k l) (kern_Make.f (k + 1) l) := by
 intro l k
 unfold kern_Make.f
 repeat' first
  | (with_reducible exact kern_Make.mono_l k _ _ _)
  | (with_reducible exact kern_May.mono _ _ _)
  | (with_reducible exact kern_ahead.mono _ _)
  | exact LeO.refl _
  | refine LeO.ite ?_ ?_
  | refine LeO.bind ?_ (fun _ => ?_)
theorem kern_Make.lits (xs : List Int) (W : World) (h : xs.length ≤ 9223372036854775807) : Kd.C (Kd.int .i64) (W.alloc (.cells (xs.map (Value.int .i64)).toArray 3)) (some ⟨W.heap.size, 0, none⟩) xs.length xs := by
 refine ⟨rfl, h, fun _ => ⟨_, rfl, fun j p hj => ⟨[.int .i64 p], rfl, rfl, fun i u hi => ?_⟩⟩⟩
 obtain ⟨rfl, rfl⟩ : i = 0 ∧ u = .int .i64 p := by
  cases i with
  | zero => exact ⟨rfl, by simpa using hi.symm⟩
  | succ i => simp at hi
 have hadd : (⟨W.heap.size, 0, none⟩ : Addr).add (j * (Kd.int .i64).sz + 0) = ⟨W.heap.size, j, none⟩ := by
  have : (Kd.int .i64).sz = 1 := rfl
  rw [this]
  unfold Addr.add
  split <;> simp_all
 rw [hadd, Lib.cell_of_heap (heap_alloc_new W _)]
 simp [hj]
theorem kern_Make.p16_3 (k : Nat) (a b c : Int) (z : ByteArray) (W : World) (n : Nat) (hn : n = W.heap.size) (h : kern_p16.f k [a, b, c] = some z) :
  Calls Try.prog 21 #[.slice (some ⟨n, 0, none⟩) 3 3] (W.alloc (.cells #[.int .i64 a, .int .i64 b, .int .i64 c] 3)) fun e w' => e = .returned (.string z) ∧ Below (W.alloc (.cells #[.int .i64 a, .int .i64 b, .int .i64 c] 3)).heap.size (W.alloc (.cells #[.int .i64 a, .int .i64 b, .int .i64 c] 3)) w' := by
 subst hn
 exact kern_p16.calls k (some ⟨W.heap.size, 0, none⟩) 3 [a, b, c] z (W.alloc (.cells #[.int .i64 a, .int .i64 b, .int .i64 c] 3)) (kern_Make.lits [a, b, c] W (by simp)) (by simp) h
theorem kern_Make.lies : liesAt Try.prog Try.prog.depth 50 (2 / Try.prog.cellsOf 50) 0 50 1 = true := by kernel_rfl
theorem kern_Make.cells (acc : ByteArray) : Lib.strCells acc = Lib.byteCells acc.data.toList := by simp [Lib.strCells, Lib.byteCells]
theorem kern_Make.joins (a b : ByteArray) : Lib.strCells a ++ Lib.strCells b = Lib.strCells (a ++ b) := by simp [Lib.strCells]
set_option maxHeartbeats 4000000 in
set_option maxRecDepth 100000 in
theorem kern_Make.calls (k : Nat) (A0 : Option Addr) (c0 : Nat) (l0 : List (S41)) (r1 : ByteArray) (r2 : Int) (w : World) (ab : Kd.C k41 w A0 l0.length l0) (ac : l0.length ≤ c0) (h : kern_Make.f k l0 = some (r1, r2)) :
  Calls Try.prog 7 #[.slice A0 l0.length c0] w fun e w' => e = .returned (.tuple #[.string r1, .int .i64 r2]) ∧ Below w.heap.size w w' := by
 obtain ⟨t, h1, h⟩ := Option.bind_eq_some_iff.mp h
 have HC := Aside0.mk ab
 have HL := Aside0.mk ac
 have H1 := Aside0.mk h1
 clear ab ac h1
 by_cases c1 : t = true
 rotate_left
 ·rw [if_neg c1] at h
  obtain rfl : t = false := by simpa using c1
  simp only [Option.some.injEq, Prod.mk.injEq] at h
  obtain ⟨rfl, rfl⟩ := h
  clear c1
  go_enter Try.func7, Try.ntmps7
  go_wp2_with (go_at_call 9; refine (kern_May.calls k A0 c0 l0 _ false _ HC.out HL.out H1.out).mono ?_; rintro e w' ⟨rfl, hb⟩)
  go_ret2
  exact ⟨rfl, hb⟩
 subst c1
 rw [if_pos rfl] at h
 obtain ⟨s, h2, h⟩ := Option.bind_eq_some_iff.mp h
 by_cases c2 : s.size ≤ 140737488355328
 rotate_left
 ·rw [if_neg c2] at h
  cases h
 rw [if_pos c2] at h
 have H' := Aside0.mk h
 have H2 := Aside0.mk h2
 have C2 := Aside0.mk c2
 clear h h2 c2
 have HB := Aside0.mk (Below.refl w.heap.size w)
 go_enter Try.func7, Try.ntmps7
 go_wp2_with (first | (go_at_call 9; refine (kern_May.calls k A0 c0 l0 _ true _ HC.out HL.out H1.out).mono ?_; rintro e w1 ⟨rfl, ae⟩; have HB1 := Aside0.mk ae; clear ae) | (go_at_call 20; refine (kern_ahead.calls k _ s _ H2.out).mono ?_; rintro e w2 ⟨rfl, aa⟩; have HD := Aside0.mk ((Bld.Bd.fresh (T := 50) HB1.out.size).below aa); have HB2 := Aside0.mk (below_step (below_alloc HB1.out _) aa); clear aa) | (go_at_call 19; refine (Bld.write_ 50 kern_Make.lies (by decide) w.heap.size w1.heap.size [] s _ HD.out (by have := C2.out; simp; omega) HB2.out.size).mono ?_; rintro e w3 ⟨rfl, hd, hb, _⟩; have HB3 := Aside0.mk (HB2.out.trans hb); have HD3 := Aside0.mk hd; clear hd hb))
 go_loopg [16] k (fun kq v16 w' => ∃ (i : Int) (acc : ByteArray), v16 = .int .i64 i ∧ Aside0 (kern_Make.l0 kq l0 i acc = some (r1, r2)) ∧ Aside0 (kq ≤ k) ∧ Aside0 (Bld.Bd 50 w.heap.size w1.heap.size (Lib.strCells acc) w') ∧ Aside0 (Below w.heap.size w w'))
 case atStart => exact ⟨0, s, rfl, H', ⟨Nat.le_refl _⟩, ⟨by have := HD3.out; simpa using this⟩, ⟨HB3.out⟩⟩
 case round =>
  clear H' HD HD3 HB2 HB3
  obtain ⟨i, acc, rfl, H, HK, HD, HB⟩ := hrel
  cases gk with
  | zero => exact absurd H.out (by simp [kern_Make.l0])
  | succ kq =>
  replace H := H.out
  unfold kern_Make.l0 at H
  by_cases c1 : i < (l0.length : Int)
  ·rw [if_pos c1] at H
   by_cases c2 : 0 ≤ i
   ·rw [if_pos c2] at H
    obtain ⟨z, hz, H⟩ := Option.bind_eq_some_iff.mp H
    by_cases c3 : acc.size + z.size ≤ 140737488355328
    rotate_left
    ·rw [if_neg c3] at H
     cases H
    rw [if_pos c3] at H
    have H' := Aside0.mk H
    have HZ := Aside0.mk hz
    have C3 := Aside0.mk c3
    clear H hz c3
    obtain ⟨ad, e, x0, x1, x2⟩ := at_T41 (Kd.C_below HC.out HB.out) i c2 c1
    cases e
    have c1b := decide_eq_true c1
    replace c2 := eq_true c2
    replace c1 := eq_true c1
    go_wp2_with (first | (go_at_call 21; (with_reducible refine (kern_Make.p16_3 kq _ _ _ z _ _ ?hn HZ.out).mono ?_); (case hn => simp); rintro e w2 ⟨rfl, aa⟩; have HD2 := Aside0.mk (((HD.out.alloc _).alloc _).below aa); have HB2 := Aside0.mk (below_step (below_alloc (below_alloc HB.out _) _) aa); clear aa) | (go_at_call 19; refine (Bld.write_ 50 kern_Make.lies (by decide) w.heap.size w1.heap.size _ z _ HD2.out (by have := C3.out; rw [Lib.strCells_length]; omega) HB2.out.size).mono ?_; rintro e w3 ⟨rfl, hd, hb, _⟩; have HB3 := Aside0.mk (HB2.out.trans hb); have HD3 := Aside0.mk hd; clear hd hb))
    go_roundg kq
    case measure => omega
    case rel => exact ⟨_, acc ++ z, rfl, H', ⟨by have := HK.out; omega⟩, ⟨by rw [← kern_Make.joins]; exact HD3.out⟩, HB3⟩
   ·rw [if_neg c2] at H
    cases H
  ·rw [if_neg c1] at H
   by_cases c2 : acc.data.toList = []
   ·rw [if_pos c2] at H
    cases H
   rw [if_neg c2] at H
   simp only [Option.some.injEq, Prod.mk.injEq] at H
   obtain ⟨rfl, rfl⟩ := H
   have C2 := Aside0.mk c2
   have c1b := decide_eq_false c1
   clear c1 c2
   go_wp2_with (go_at_call 22; refine (Bld.string_ 50 w.heap.size w1.heap.size acc.data.toList _ (by rw [← kern_Make.cells]; exact HD.out) C2.out).mono ?_; rintro e w3 ⟨rfl, hd, hb, _⟩; have HB3 := Aside0.mk (HB.out.trans hb); clear hd hb)
   go_ret2
   exact ⟨by simp, HB3.out⟩

end Go.Proofs.Ythnojbbfmcapnaa.Pr
