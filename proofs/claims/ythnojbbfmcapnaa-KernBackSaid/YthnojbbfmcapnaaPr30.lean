-- printed by a program of this session's (wip/mp.sh), out of the translation; the texts of its folder 'given' are typed by hand
-- shortened (wip/short.py)
import Derived.Test.YthnojbbfmcapnaaPr0
import Derived.Test.YthnojbbfmcapnaaPr29
namespace Go.Proofs.Ythnojbbfmcapnaa.Pr
open Go.RowKit Go.Proofs.YthnojbbfmcapnaaW.PrintWords Go.Proofs.YthnojbbfmcapnaaW.PrintLast Go.Proofs.YthnojbbfmcapnaaW.PrintMore
attribute [local go_sem] max2_int min2_int max_two min_two max_three min_three max_four min_four   -- for this text's walks alone
set_option linter.unusedVariables false
set_option linter.unusedSimpArgs false

/-- A state of type 91 at block g of W; what its slices lead to came in by w0. -/
def IsS91 (w0 W : World) (g : Nat) (f0 : ByteArray) (f1 : Int) (f2 : Bool) : Prop := W.heap[g]? = some (.cells #[.string f0, .int .i64 f1, .bool f2] 91 (0, 0)) ∧ w0.heap.size ≤ g
theorem IsS91.grown {w0 W : World} {g : Nat} {f0 : ByteArray} {f1 : Int} {f2 : Bool} {W1 : World} {row : Option Nat} (h : IsS91 w0 W g f0 f1 f2) (hw : W.grownBy W1 row) (hne : some g ≠ row) : IsS91 w0 W1 g f0 f1 f2 := by
  obtain ⟨hb, hg⟩ := h
  exact ⟨blk_grown hb hw hne, hg⟩
theorem IsS91.own_neN {w0 W : World} {g : Nat} {f0 : ByteArray} {f1 : Int} {f2 : Bool} {α : Type} {d : Kd α} {e : Nat} {base : Nat} {ok : Nat → Prop} {v : Value} {xs : List α} (h : IsS91 w0 W g f0 f1 f2) (ho : Kd.N d e W base ok v xs) (ht : e ≠ 91) : some g ≠ v.ownBlock := by
  obtain ⟨hb, hg⟩ := h
  exact Kd.N_ne ho hb ht
theorem IsS91.fresh {w0 W : World} {g : Nat} {f0 : ByteArray} {f1 : Int} {f2 : Bool} (h : IsS91 w0 W g f0 f1 f2) : ∀ k, W.heap.size ≤ k → k ≠ g := by
  obtain ⟨hb, hg⟩ := h
  exact Kd.freshB hb
theorem IsS91.kept {w0 W : World} {g : Nat} {f0 : ByteArray} {f1 : Int} {f2 : Bool} {W1 : World} {S : Nat → Prop} (h : IsS91 w0 W g f0 f1 f2) (hk : Kept W W1 S) (hne : ¬ S g) : IsS91 w0 W1 g f0 f1 f2 := by
  obtain ⟨hb, hg⟩ := h
  exact ⟨blk_kept hb hk hne, hg⟩
theorem IsS91.below {w0 W : World} {g : Nat} {f0 : ByteArray} {f1 : Int} {f2 : Bool} {W1 : World} (h : IsS91 w0 W g f0 f1 f2) (hw : Below W.heap.size W W1) : IsS91 w0 W1 g f0 f1 f2 := h.grown (grown_of_below hw none) (by simp)
theorem IsS91.alloc {w0 W : World} {g : Nat} {f0 : ByteArray} {f1 : Int} {f2 : Bool} (h : IsS91 w0 W g f0 f1 f2) (o : Obj) : IsS91 w0 (W.alloc o) g f0 f1 f2 := h.below (below_alloc (Below.refl _ _) o)
theorem IsS91.drewN {w0 W : World} {g : Nat} {f0 : ByteArray} {f1 : Int} {f2 : Bool} (h : IsS91 w0 W g f0 f1 f2) (m : Nat) : IsS91 w0 (W.drewN m) g f0 f1 f2 := h
theorem IsS91.drew {w0 W : World} {g : Nat} {f0 : ByteArray} {f1 : Int} {f2 : Bool} (h : IsS91 w0 W g f0 f1 f2) : IsS91 w0 W.drew g f0 f1 f2 := h
theorem IsS91.at_ {w0 W : World} {g : Nat} {f0 : ByteArray} {f1 : Int} {f2 : Bool} {w' : World} {m : Nat} (hq : W.drewN m = w') (h : IsS91 w0 W g f0 f1 f2) : IsS91 w0 w' g f0 f1 f2 := by subst hq; exact IsS91.drewN h m
theorem IsS91.apart {w0 W : World} {g : Nat} {f0 : ByteArray} {f1 : Int} {f2 : Bool} {α : Type} {d : Kd α} {e : Nat} {base : Nat} {ok : Nat → Prop} {v : Value} {xs : List α} (h : IsS91 w0 W g f0 f1 f2) (ho : d.R e W base ok v xs) (ht : ∀ q, q ∈ e :: d.E → q ≠ 91) : d.R e W base (fun k => ok k ∧ k ≠ g) v xs := by
  obtain ⟨hb, hg⟩ := h
  exact Kd.R_types ho hb ht
theorem IsS91.own_ne {w0 W : World} {g : Nat} {f0 : ByteArray} {f1 : Int} {f2 : Bool} {α : Type} {d : Kd α} {e : Nat} {base : Nat} {ok : Nat → Prop} {v : Value} {xs : List α} (h : IsS91 w0 W g f0 f1 f2) (ho : d.R e W base ok v xs) (ht : e ≠ 91) : some g ≠ v.ownBlock := by
  obtain ⟨hb, hg⟩ := h
  exact Kd.R_ne ho hb ht
theorem IsS91.apartQ {w0 W : World} {g : Nat} {f0 : ByteArray} {f1 : Int} {f2 : Bool} {α : Type} {d : Kd α} {e : Nat} {base : Nat} {ok : Nat → Prop} {v : Value} {xs : List α} (h : IsS91 w0 W g f0 f1 f2) (ho : d.Q e W base ok v xs) (ht : ∀ q, q ∈ e :: d.E → q ≠ 91) : d.Q e W base (fun k => ok k ∧ k ≠ g) v xs := by
  obtain ⟨hb, hg⟩ := h
  exact Kd.Q_types ho hb ht
theorem IsS91.own_neQ {w0 W : World} {g : Nat} {f0 : ByteArray} {f1 : Int} {f2 : Bool} {α : Type} {d : Kd α} {e : Nat} {base : Nat} {ok : Nat → Prop} {v : Value} {xs : List α} (h : IsS91 w0 W g f0 f1 f2) (ho : d.Q e W base ok v xs) (ht : e ≠ 91) : some g ≠ v.ownBlock := by
  obtain ⟨hb, hg⟩ := h
  exact Kd.Q_ne ho hb ht
theorem IsS91.apartS {w0 W : World} {g : Nat} {f0 : ByteArray} {f1 : Int} {f2 : Bool} {α : Type} {d : Kd α} {e : Nat} {base : Nat} {ok : Nat → Prop} {v : Value} {xs : List α} (h : IsS91 w0 W g f0 f1 f2) (ho : d.S e W base ok v xs) (ht : ∀ q, q ∈ e :: d.E → q ≠ 91) : d.S e W base (fun k => ok k ∧ k ≠ g) v xs := by
  obtain ⟨hb, hg⟩ := h
  exact Kd.S_types ho hb ht
theorem IsS91.own_neS {w0 W : World} {g : Nat} {f0 : ByteArray} {f1 : Int} {f2 : Bool} {α : Type} {d : Kd α} {e : Nat} {base : Nat} {ok : Nat → Prop} {v : Value} {xs : List α} (h : IsS91 w0 W g f0 f1 f2) (ho : d.S e W base ok v xs) (ht : e ≠ 91) : some g ≠ v.ownBlock := by
  obtain ⟨hb, hg⟩ := h
  exact Kd.S_ne ho hb ht
theorem IsS91.lt {w0 W : World} {g : Nat} {f0 : ByteArray} {f1 : Int} {f2 : Bool} (h : IsS91 w0 W g f0 f1 f2) : g < W.heap.size := by
  obtain ⟨hb, hg⟩ := h
  exact blk_lt hb
theorem IsS91.ge {w0 W : World} {g : Nat} {f0 : ByteArray} {f1 : Int} {f2 : Bool} (h : IsS91 w0 W g f0 f1 f2) : w0.heap.size ≤ g := by
  obtain ⟨hb, hg⟩ := h
  exact hg
theorem IsS91.ne_blk {w0 W : World} {g : Nat} {f0 : ByteArray} {f1 : Int} {f2 : Bool} {a : Nat} {cs : Array Value} {t : TypeId} {fr : Nat × Nat} (h : IsS91 w0 W g f0 f1 f2) (hb2 : W.heap[a]? = some (.cells cs t fr)) (ht : t ≠ 91) : g ≠ a := by
  obtain ⟨hb, hg⟩ := h
  rintro rfl
  rw [hb] at hb2
  injection hb2 with hb2
  injection hb2 with _ ht2
  exact ht ht2.symm
theorem IsS91.far {w0 W : World} {g : Nat} {f0 : ByteArray} {f1 : Int} {f2 : Bool} {p : Addr} (h : IsS91 w0 W g f0 f1 f2) (hne : g ≠ p.block) (u : Value) : IsS91 w0 (W.setCell p u) g f0 f1 f2 := by
  obtain ⟨hb, hg⟩ := h
  exact ⟨blk_far hb hne u, hg⟩
theorem cellS91_0 {W : World} {g : Nat} {f0 : ByteArray} {f1 : Int} {f2 : Bool} (h : W.heap[g]? = some (.cells #[.string f0, .int .i64 f1, .bool f2] 91 (0, 0))) : W.cell? ⟨g, 0, none⟩ = some (.string f0) := (blk_cell h 0).trans rfl
theorem IsS91.set_0 {w0 W : World} {g : Nat} {f0 : ByteArray} {f1 : Int} {f2 : Bool} (h : IsS91 w0 W g f0 f1 f2) (x : ByteArray) : IsS91 w0 (W.setCell ⟨g, 0, none⟩ (.string x)) g x f1 f2 := by
  obtain ⟨hb, hg⟩ := h
  exact ⟨by simpa using blk_set hb 0 (.string x), hg⟩
theorem cellS91_1 {W : World} {g : Nat} {f0 : ByteArray} {f1 : Int} {f2 : Bool} (h : W.heap[g]? = some (.cells #[.string f0, .int .i64 f1, .bool f2] 91 (0, 0))) : W.cell? ⟨g, 1, none⟩ = some (.int .i64 f1) := (blk_cell h 1).trans rfl
theorem IsS91.set_1 {w0 W : World} {g : Nat} {f0 : ByteArray} {f1 : Int} {f2 : Bool} (h : IsS91 w0 W g f0 f1 f2) (x : Int) : IsS91 w0 (W.setCell ⟨g, 1, none⟩ (.int .i64 x)) g f0 x f2 := by
  obtain ⟨hb, hg⟩ := h
  exact ⟨by simpa using blk_set hb 1 (.int .i64 x), hg⟩
theorem cellS91_2 {W : World} {g : Nat} {f0 : ByteArray} {f1 : Int} {f2 : Bool} (h : W.heap[g]? = some (.cells #[.string f0, .int .i64 f1, .bool f2] 91 (0, 0))) : W.cell? ⟨g, 2, none⟩ = some (.bool f2) := (blk_cell h 2).trans rfl
theorem IsS91.set_2 {w0 W : World} {g : Nat} {f0 : ByteArray} {f1 : Int} {f2 : Bool} (h : IsS91 w0 W g f0 f1 f2) (x : Bool) : IsS91 w0 (W.setCell ⟨g, 2, none⟩ (.bool x)) g f0 f1 x := by
  obtain ⟨hb, hg⟩ := h
  exact ⟨by simpa using blk_set hb 2 (.bool x), hg⟩
theorem IsS91.new (w0 W : World) (f0 : ByteArray) (f1 : Int) (f2 : Bool) (hB : Below w0.heap.size w0 W) : IsS91 w0 (W.alloc (.cells #[.string f0, .int .i64 f1, .bool f2] 91)) W.heap.size f0 f1 f2 := ⟨by simpa using heap_alloc_new W _, hB.size⟩

/-! ### pochoirref07_Reader_Take: function 57 -/
def pochoirref07_Reader_Take.f (s0_0 : ByteArray) (s0_1 : Int) (s0_2 : Bool) (a1 : Int) : Option (ByteArray × ByteArray × Int × Bool) := (pochoirref07_Cut.f s0_0 s0_1 a1).bind fun ac => (if s0_2 = true then (some ((⟨#[]⟩ : ByteArray), s0_0, s0_1, true)) else (if ac.2 = 0 then (some (ac.1, s0_0, wrap64 (s0_1 + a1), s0_2)) else (some ((⟨#[]⟩ : ByteArray), s0_0, s0_1, true))))
set_option maxHeartbeats 8000000 in
set_option maxRecDepth 100000 in
theorem pochoirref07_Reader_Take.calls (g : Nat) (s0_0 : ByteArray) (s0_1 : Int) (s0_2 : Bool) (a1 : Int) (r1 : ByteArray) (r2 : ByteArray) (r3 : Int) (r4 : Bool) (w0 w : World) (hI : IsS91 w0 w g s0_0 s0_1 s0_2) (hB : Below w0.heap.size w0 w) (h : pochoirref07_Reader_Take.f s0_0 s0_1 s0_2 a1 = some (r1, r2, r3, r4)) :
  Calls Try.prog 57 #[.pointer (some ⟨g, 0, none⟩), .int .i64 a1] w fun e w' => e = .returned (.string r1) ∧ IsS91 w0 w' g r2 r3 r4 ∧ Below w0.heap.size w0 w' ∧ KeepBut w w' g none := by
 have HI0 := Aside0.mk hI
 have HK := Aside0.mk (KeepBut.refl w g none)
 have HL := Aside0.mk hB.size
 clear hI
 have HW0 := Aside0.mk hB.size
 have HB := Aside0.mk hB
 clear hB
 have H : ((pochoirref07_Cut.f s0_0 s0_1 a1).bind fun ac => (if s0_2 = true then (some ((⟨#[]⟩ : ByteArray), s0_0, s0_1, true)) else (if ac.2 = 0 then (some (ac.1, s0_0, wrap64 (s0_1 + a1), s0_2)) else (some ((⟨#[]⟩ : ByteArray), s0_0, s0_1, true))))) = some (r1, r2, r3, r4) := h
 clear h
 replace H := Option.bind_eq_some_iff.mp H
 obtain ⟨⟨ab, aa⟩, A30, H⟩ := H
 replace H : (if s0_2 = true then (some ((⟨#[]⟩ : ByteArray), s0_0, s0_1, true)) else (if aa = 0 then (some (ab, s0_0, wrap64 (s0_1 + a1), s0_2)) else (some ((⟨#[]⟩ : ByteArray), s0_0, s0_1, true)))) = some (r1, r2, r3, r4) := H
 have A3 := Aside0.mk A30
 clear A30
 by_cases c4 : s0_2 = true
 ·subst c4
  have H1 : (some ((⟨#[]⟩ : ByteArray), s0_0, s0_1, true)) = some (r1, r2, r3, r4) := by rw [if_pos rfl] at H; exact H
  clear H
  have H := H1
  clear H1
  simp only [Option.some.injEq, Prod.mk.injEq] at H
  obtain ⟨rfl, rfl, rfl, rfl⟩ := H
  obtain ⟨HGz5, ah⟩ := HI0.out
  have am := cellS91_0 HGz5
  have an := cellS91_1 HGz5
  have ao := cellS91_2 HGz5
  have ap := blk_frozen HGz5 0
  have aq := blk_frozen HGz5 1
  have ar := blk_frozen HGz5 2
  clear HGz5 ah
  go_enter Try.func57, Try.ntmps57
  go_wp2_with (first | (go_at_call 51; (with_reducible refine (pochoirref07_Cut.calls s0_0 s0_1 a1 ab aa _ A3.out).mono ?_); rintro e w' ⟨rfl, ⟨nd, rfl⟩⟩; (try first | exact ⟨rfl, _, World.drewN_drewN _ _ _⟩ | exact ⟨rfl, _, Eq.trans (World.drewN_drewN _ _ _) (congrArg (World.drewN _) (Nat.add_assoc _ _ _))⟩)))
  repeat (go_quiet (first | (go_at_call 51; (with_reducible refine (pochoirref07_Cut.calls s0_0 s0_1 a1 ab aa _ A3.out).mono ?_); rintro e w' ⟨rfl, ⟨nd, rfl⟩⟩; (try first | exact ⟨rfl, _, World.drewN_drewN _ _ _⟩ | exact ⟨rfl, _, Eq.trans (World.drewN_drewN _ _ _) (congrArg (World.drewN _) (Nat.add_assoc _ _ _))⟩))); try go_wp2_with (first | (go_at_call 51; (with_reducible refine (pochoirref07_Cut.calls s0_0 s0_1 a1 ab aa _ A3.out).mono ?_); rintro e w' ⟨rfl, ⟨nd, rfl⟩⟩; (try first | exact ⟨rfl, _, World.drewN_drewN _ _ _⟩ | exact ⟨rfl, _, Eq.trans (World.drewN_drewN _ _ _) (congrArg (World.drewN _) (Nat.add_assoc _ _ _))⟩))))
  go_ret
  exact ⟨by first | rfl | (simp [errW_none, errW_some] <;> rfl) | (simp [*, errW_none, errW_some] <;> rfl), by repeat (first | (with_reducible first | exact HI0.out | apply IsS91.alloc | apply IsS91.drewN | apply IsS91.drew | apply IsS91.set_0 | apply IsS91.set_1 | apply IsS91.set_2) | exact HI0.out), by repeat (first | (with_reducible first | exact HB.out | apply below_alloc | apply pw_below_drewN | apply below_drew1 | refine below_set ?_ (IsS91.ge HI0.out)) | exact HB.out), by repeat (first | (with_reducible first | exact HK.out | apply KeepBut.set_ | apply keep_drewN | apply keep_drew | apply keep_alloc) | exact HK.out)⟩
 ·replace c4 := Bool.eq_false_iff.mpr c4
  subst c4
  have H1 : (if aa = 0 then (some (ab, s0_0, wrap64 (s0_1 + a1), false)) else (some ((⟨#[]⟩ : ByteArray), s0_0, s0_1, true))) = some (r1, r2, r3, r4) := by rw [if_neg (show ¬ (false = true) by decide)] at H; exact H
  clear H
  have H := H1
  clear H1
  by_cases c6 : aa = 0
  ·rw [if_pos c6] at H
   have ai : (aa == 0) = true := beq_iff_eq.mpr c6
   have aj : (aa != 0) = false := bne_eq_false_iff_eq.mpr c6
   clear c6
   simp only [Option.some.injEq, Prod.mk.injEq] at H
   obtain ⟨rfl, rfl, rfl, rfl⟩ := H
   obtain ⟨HGz7, ak⟩ := HI0.out
   have au := cellS91_0 HGz7
   have av := cellS91_1 HGz7
   have aw := cellS91_2 HGz7
   have ax := blk_frozen HGz7 0
   have ay := blk_frozen HGz7 1
   have az := blk_frozen HGz7 2
   clear HGz7 ak
   go_enter Try.func57, Try.ntmps57
   go_wp2_with (first | (go_at_call 51; (with_reducible refine (pochoirref07_Cut.calls s0_0 s0_1 a1 ab aa _ A3.out).mono ?_); rintro e w' ⟨rfl, ⟨nd, rfl⟩⟩; (try first | exact ⟨rfl, _, World.drewN_drewN _ _ _⟩ | exact ⟨rfl, _, Eq.trans (World.drewN_drewN _ _ _) (congrArg (World.drewN _) (Nat.add_assoc _ _ _))⟩)))
   repeat (go_quiet (first | (go_at_call 51; (with_reducible refine (pochoirref07_Cut.calls s0_0 s0_1 a1 ab aa _ A3.out).mono ?_); rintro e w' ⟨rfl, ⟨nd, rfl⟩⟩; (try first | exact ⟨rfl, _, World.drewN_drewN _ _ _⟩ | exact ⟨rfl, _, Eq.trans (World.drewN_drewN _ _ _) (congrArg (World.drewN _) (Nat.add_assoc _ _ _))⟩))); try go_wp2_with (first | (go_at_call 51; (with_reducible refine (pochoirref07_Cut.calls s0_0 s0_1 a1 ab aa _ A3.out).mono ?_); rintro e w' ⟨rfl, ⟨nd, rfl⟩⟩; (try first | exact ⟨rfl, _, World.drewN_drewN _ _ _⟩ | exact ⟨rfl, _, Eq.trans (World.drewN_drewN _ _ _) (congrArg (World.drewN _) (Nat.add_assoc _ _ _))⟩))))
   go_ret
   exact ⟨by first | rfl | (simp [errW_none, errW_some] <;> rfl) | (simp [*, errW_none, errW_some] <;> rfl), by repeat (first | (with_reducible first | exact HI0.out | apply IsS91.alloc | apply IsS91.drewN | apply IsS91.drew | apply IsS91.set_0 | apply IsS91.set_1 | apply IsS91.set_2) | exact HI0.out), by repeat (first | (with_reducible first | exact HB.out | apply below_alloc | apply pw_below_drewN | apply below_drew1 | refine below_set ?_ (IsS91.ge HI0.out)) | exact HB.out), by repeat (first | (with_reducible first | exact HK.out | apply KeepBut.set_ | apply keep_drewN | apply keep_drew | apply keep_alloc) | exact HK.out)⟩
  ·rw [if_neg c6] at H
   have ai : (aa == 0) = false := beq_eq_false_iff_ne.mpr c6
   have aj : (aa != 0) = true := bne_iff_ne.mpr c6
   simp only [Option.some.injEq, Prod.mk.injEq] at H
   obtain ⟨rfl, rfl, rfl, rfl⟩ := H
   obtain ⟨HGz8, al⟩ := HI0.out
   have aA := cellS91_0 HGz8
   have aB := cellS91_1 HGz8
   have aC := cellS91_2 HGz8
   have aD := blk_frozen HGz8 0
   have aE := blk_frozen HGz8 1
   have aF := blk_frozen HGz8 2
   clear HGz8 al
   go_enter Try.func57, Try.ntmps57
   go_wp2_with (first | (go_at_call 51; (with_reducible refine (pochoirref07_Cut.calls s0_0 s0_1 a1 ab aa _ A3.out).mono ?_); rintro e w' ⟨rfl, ⟨nd, rfl⟩⟩; (try first | exact ⟨rfl, _, World.drewN_drewN _ _ _⟩ | exact ⟨rfl, _, Eq.trans (World.drewN_drewN _ _ _) (congrArg (World.drewN _) (Nat.add_assoc _ _ _))⟩)))
   repeat (go_quiet (first | (go_at_call 51; (with_reducible refine (pochoirref07_Cut.calls s0_0 s0_1 a1 ab aa _ A3.out).mono ?_); rintro e w' ⟨rfl, ⟨nd, rfl⟩⟩; (try first | exact ⟨rfl, _, World.drewN_drewN _ _ _⟩ | exact ⟨rfl, _, Eq.trans (World.drewN_drewN _ _ _) (congrArg (World.drewN _) (Nat.add_assoc _ _ _))⟩))); try go_wp2_with (first | (go_at_call 51; (with_reducible refine (pochoirref07_Cut.calls s0_0 s0_1 a1 ab aa _ A3.out).mono ?_); rintro e w' ⟨rfl, ⟨nd, rfl⟩⟩; (try first | exact ⟨rfl, _, World.drewN_drewN _ _ _⟩ | exact ⟨rfl, _, Eq.trans (World.drewN_drewN _ _ _) (congrArg (World.drewN _) (Nat.add_assoc _ _ _))⟩))))
   go_ret
   exact ⟨by first | rfl | (simp [errW_none, errW_some] <;> rfl) | (simp [*, errW_none, errW_some] <;> rfl), by repeat (first | (with_reducible first | exact HI0.out | apply IsS91.alloc | apply IsS91.drewN | apply IsS91.drew | apply IsS91.set_0 | apply IsS91.set_1 | apply IsS91.set_2) | exact HI0.out), by repeat (first | (with_reducible first | exact HB.out | apply below_alloc | apply pw_below_drewN | apply below_drew1 | refine below_set ?_ (IsS91.ge HI0.out)) | exact HB.out), by repeat (first | (with_reducible first | exact HK.out | apply KeepBut.set_ | apply keep_drewN | apply keep_drew | apply keep_alloc) | exact HK.out)⟩

/-! ### pochoirref07_Reader_Num: function 53 -/
def pochoirref07_Reader_Num.f (k : Nat) (s0_0 : ByteArray) (s0_1 : Int) (s0_2 : Bool) (a1 : Int) : Option (Int × ByteArray × Int × Bool) := (pochoirref07_Reader_Take.f s0_0 s0_1 s0_2 a1).bind fun aa => ((pochoirref07_number.f k aa.1).bind fun ab => (some (ab, aa.2.1, aa.2.2.1, aa.2.2.2)))
theorem pochoirref07_Reader_Num.mono : ∀ a0 a1 a2 a3 k, LeO (pochoirref07_Reader_Num.f k a0 a1 a2 a3) (pochoirref07_Reader_Num.f (k + 1) a0 a1 a2 a3) := by
 intro a0 a1 a2 a3 k
 unfold pochoirref07_Reader_Num.f
 repeat' first
   | (with_reducible exact pochoirref07_number.mono _ _)
   | (with_reducible exact LeO.refl _)
   | (with_reducible exact LeO.none _)
   | (with_reducible refine LeO.ite ?_ ?_)
   | (with_reducible refine LeO.bind ?_ (fun _ => ?_))
   | exact pochoirref07_number.mono _ _
   | exact LeO.none _
   | refine LeO.ite ?_ ?_
   | refine LeO.bind ?_ (fun _ => ?_)
set_option maxHeartbeats 8000000 in
set_option maxRecDepth 100000 in
theorem pochoirref07_Reader_Num.calls (k : Nat) (g : Nat) (s0_0 : ByteArray) (s0_1 : Int) (s0_2 : Bool) (a1 : Int) (r1 : Int) (r2 : ByteArray) (r3 : Int) (r4 : Bool) (w0 w : World) (hI : IsS91 w0 w g s0_0 s0_1 s0_2) (hB : Below w0.heap.size w0 w) (h : pochoirref07_Reader_Num.f k s0_0 s0_1 s0_2 a1 = some (r1, r2, r3, r4)) :
  Calls Try.prog 53 #[.pointer (some ⟨g, 0, none⟩), .int .i64 a1] w fun e w' => e = .returned (.int .u32 r1) ∧ IsS91 w0 w' g r2 r3 r4 ∧ Below w0.heap.size w0 w' ∧ KeepBut w w' g none := by
 have HI0 := Aside0.mk hI
 have HK := Aside0.mk (KeepBut.refl w g none)
 have HL := Aside0.mk hB.size
 clear hI
 have HW0 := Aside0.mk hB.size
 have HB := Aside0.mk hB
 clear hB
 have H : ((pochoirref07_Reader_Take.f s0_0 s0_1 s0_2 a1).bind fun aa => ((pochoirref07_number.f k aa.1).bind fun ab => (some (ab, aa.2.1, aa.2.2.1, aa.2.2.2)))) = some (r1, r2, r3, r4) := h
 clear h
 replace H := Option.bind_eq_some_iff.mp H
 obtain ⟨⟨ac, ad, ae, af⟩, A30, H⟩ := H
 replace H : ((pochoirref07_number.f k ac).bind fun ab => (some (ab, ad, ae, af))) = some (r1, r2, r3, r4) := H
 have A3 := Aside0.mk A30
 clear A30
 replace H := Option.bind_eq_some_iff.mp H
 obtain ⟨ab, A40, H⟩ := H
 replace H : (some (ab, ad, ae, af)) = some (r1, r2, r3, r4) := H
 have A4 := Aside0.mk A40
 clear A40
 simp only [Option.some.injEq, Prod.mk.injEq] at H
 obtain ⟨rfl, rfl, rfl, rfl⟩ := H
 go_enter Try.func53, Try.ntmps53
 go_wp2_with (first | ((with_reducible refine gate_callee (f := 57) rfl ?_); refine goesL_ (some 7) rfl rfl Try.func57 (by kernel_rfl) rfl #[.pointer (some ⟨g, 0, none⟩), .int .i64 a1] rfl (by (try simp only [List.map_toArray, List.map_cons, List.map_nil]); first | done | rfl | (simp only [List.length_drop, List.length_take]; rfl)) ?_; (with_reducible refine (pochoirref07_Reader_Take.calls g s0_0 s0_1 s0_2 a1 ac ad ae af w0 _ ?side1 ?side2 A3.out).mono ?_); (case side1 => repeat (first | (with_reducible first | exact HI0.out | apply IsS91.alloc | apply IsS91.drewN | apply IsS91.drew | apply IsS91.set_0 | apply IsS91.set_1 | apply IsS91.set_2) | exact HI0.out)); (case side2 => repeat (first | (with_reducible first | exact HB.out | apply below_alloc | apply pw_below_drewN | apply below_drew1 | refine below_set ?_ (IsS91.ge HI0.out)) | exact HB.out)); rintro e w5 ⟨rfl, hi, hb, hk⟩; refine ⟨_, rfl, ?_⟩; have ak := Aside0.mk (KeepBut.trans (by repeat (first | (with_reducible first | exact HK.out | apply KeepBut.set_ | apply keep_drewN | apply keep_drew | apply keep_alloc) | exact HK.out)) hk (.inl rfl)); have al := Aside0.mk (hb); have am := Aside0.mk (hi); clear HK; clear HB; clear HI0; have HK := ak; have HB := al; have HI0 := am; clear ak al am; (try clear hb); (try clear an); (try clear hk); (try clear hi)) | ((with_reducible refine gate_callee (f := 52) rfl ?_); refine goesL_ (some 8) rfl rfl Try.func52 (by kernel_rfl) rfl #[.string ac] rfl (by (try simp only [List.map_toArray, List.map_cons, List.map_nil]); first | done | rfl | (simp only [List.length_drop, List.length_take]; rfl)) ?_; (with_reducible refine (pochoirref07_number.calls k ac ab _ A4.out).mono ?_); rintro e w' ⟨rfl, ⟨nd, rfl⟩⟩; refine ⟨_, rfl, ?_⟩))
 go_ret
 exact ⟨by first | rfl | (simp [errW_none, errW_some] <;> rfl) | (simp [*, errW_none, errW_some] <;> rfl), by repeat (first | (with_reducible first | exact HI0.out | apply IsS91.alloc | apply IsS91.drewN | apply IsS91.drew | apply IsS91.set_0 | apply IsS91.set_1 | apply IsS91.set_2) | exact HI0.out), by repeat (first | (with_reducible first | exact HB.out | apply below_alloc | apply pw_below_drewN | apply below_drew1 | refine below_set ?_ (IsS91.ge HI0.out)) | exact HB.out), by repeat (first | (with_reducible first | exact HK.out | apply KeepBut.set_ | apply keep_drewN | apply keep_drew | apply keep_alloc) | exact HK.out)⟩

/-! ### pochoirref07_Reader_I16: function 46 -/
def pochoirref07_Reader_I16.f (k : Nat) (s0_0 : ByteArray) (s0_1 : Int) (s0_2 : Bool) : Option (Int × ByteArray × Int × Bool) := (pochoirref07_Reader_Num.f k s0_0 s0_1 s0_2 2).bind fun aa => (if (wrap64 (aa.1)) ≥ 32768 then (some (wrap64 ((wrap64 (aa.1)) - 65536), aa.2.1, aa.2.2.1, aa.2.2.2)) else (some (wrap64 (aa.1), aa.2.1, aa.2.2.1, aa.2.2.2)))
theorem pochoirref07_Reader_I16.mono : ∀ a0 a1 a2 k, LeO (pochoirref07_Reader_I16.f k a0 a1 a2) (pochoirref07_Reader_I16.f (k + 1) a0 a1 a2) := by
 intro a0 a1 a2 k
 unfold pochoirref07_Reader_I16.f
 repeat' first
   | (with_reducible exact pochoirref07_Reader_Num.mono _ _ _ _ _)
   | (with_reducible exact LeO.refl _)
   | (with_reducible exact LeO.none _)
   | (with_reducible refine LeO.ite ?_ ?_)
   | (with_reducible refine LeO.bind ?_ (fun _ => ?_))
   | exact pochoirref07_Reader_Num.mono _ _ _ _ _
   | exact LeO.none _
   | refine LeO.ite ?_ ?_
   | refine LeO.bind ?_ (fun _ => ?_)
set_option maxHeartbeats 8000000 in
set_option maxRecDepth 100000 in
theorem pochoirref07_Reader_I16.calls (k : Nat) (g : Nat) (s0_0 : ByteArray) (s0_1 : Int) (s0_2 : Bool) (r1 : Int) (r2 : ByteArray) (r3 : Int) (r4 : Bool) (w0 w : World) (hI : IsS91 w0 w g s0_0 s0_1 s0_2) (hB : Below w0.heap.size w0 w) (h : pochoirref07_Reader_I16.f k s0_0 s0_1 s0_2 = some (r1, r2, r3, r4)) :
  Calls Try.prog 46 #[.pointer (some ⟨g, 0, none⟩)] w fun e w' => e = .returned (.int .i64 r1) ∧ IsS91 w0 w' g r2 r3 r4 ∧ Below w0.heap.size w0 w' ∧ KeepBut w w' g none := by
 have HI0 := Aside0.mk hI
 have HK := Aside0.mk (KeepBut.refl w g none)
 have HL := Aside0.mk hB.size
 clear hI
 have HW0 := Aside0.mk hB.size
 have HB := Aside0.mk hB
 clear hB
 have H : ((pochoirref07_Reader_Num.f k s0_0 s0_1 s0_2 2).bind fun aa => (if (wrap64 (aa.1)) ≥ 32768 then (some (wrap64 ((wrap64 (aa.1)) - 65536), aa.2.1, aa.2.2.1, aa.2.2.2)) else (some (wrap64 (aa.1), aa.2.1, aa.2.2.1, aa.2.2.2)))) = some (r1, r2, r3, r4) := h
 clear h
 replace H := Option.bind_eq_some_iff.mp H
 obtain ⟨⟨ab, ac, ad, ae⟩, A20, H⟩ := H
 replace H : (if (wrap64 (ab)) ≥ 32768 then (some (wrap64 ((wrap64 (ab)) - 65536), ac, ad, ae)) else (some (wrap64 (ab), ac, ad, ae))) = some (r1, r2, r3, r4) := H
 have A2 := Aside0.mk A20
 clear A20
 by_cases c3 : (wrap64 (ab)) ≥ 32768
 ·rw [if_pos c3] at H
  have am : decide (32768 ≤ (wrap64 (ab))) = true := decide_eq_true c3
  clear c3
  simp only [Option.some.injEq, Prod.mk.injEq] at H
  obtain ⟨rfl, rfl, rfl, rfl⟩ := H
  go_enter Try.func46, Try.ntmps46
  go_wp2_with (first | ((with_reducible refine gate_callee (f := 53) rfl ?_); refine goesL_ (some 5) rfl rfl Try.func53 (by kernel_rfl) rfl #[.pointer (some ⟨g, 0, none⟩), .int .i64 2] rfl (by (try simp only [List.map_toArray, List.map_cons, List.map_nil]); first | done | rfl | (simp only [List.length_drop, List.length_take]; rfl)) ?_; (with_reducible refine (pochoirref07_Reader_Num.calls k g s0_0 s0_1 s0_2 2 ab ac ad ae w0 _ ?side1 ?side2 A2.out).mono ?_); (case side1 => repeat (first | (with_reducible first | exact HI0.out | apply IsS91.alloc | apply IsS91.drewN | apply IsS91.drew | apply IsS91.set_0 | apply IsS91.set_1 | apply IsS91.set_2) | exact HI0.out)); (case side2 => repeat (first | (with_reducible first | exact HB.out | apply below_alloc | apply pw_below_drewN | apply below_drew1 | refine below_set ?_ (IsS91.ge HI0.out)) | exact HB.out)); rintro e w4 ⟨rfl, hi, hb, hk⟩; refine ⟨_, rfl, ?_⟩; have af := Aside0.mk (KeepBut.trans (by repeat (first | (with_reducible first | exact HK.out | apply KeepBut.set_ | apply keep_drewN | apply keep_drew | apply keep_alloc) | exact HK.out)) hk (.inl rfl)); have ag := Aside0.mk (hb); have ah := Aside0.mk (hi); clear HK; clear HB; clear HI0; have HK := af; have HB := ag; have HI0 := ah; clear af ag ah; (try clear hb); (try clear an); (try clear hk); (try clear hi)))
  go_ret
  exact ⟨by first | rfl | (simp [errW_none, errW_some] <;> rfl) | (simp [*, errW_none, errW_some] <;> rfl), by repeat (first | (with_reducible first | exact HI0.out | apply IsS91.alloc | apply IsS91.drewN | apply IsS91.drew | apply IsS91.set_0 | apply IsS91.set_1 | apply IsS91.set_2) | exact HI0.out), by repeat (first | (with_reducible first | exact HB.out | apply below_alloc | apply pw_below_drewN | apply below_drew1 | refine below_set ?_ (IsS91.ge HI0.out)) | exact HB.out), by repeat (first | (with_reducible first | exact HK.out | apply KeepBut.set_ | apply keep_drewN | apply keep_drew | apply keep_alloc) | exact HK.out)⟩
 ·rw [if_neg c3] at H
  have am : decide (32768 ≤ (wrap64 (ab))) = false := decide_eq_false c3
  clear c3
  simp only [Option.some.injEq, Prod.mk.injEq] at H
  obtain ⟨rfl, rfl, rfl, rfl⟩ := H
  go_enter Try.func46, Try.ntmps46
  go_wp2_with (first | ((with_reducible refine gate_callee (f := 53) rfl ?_); refine goesL_ (some 5) rfl rfl Try.func53 (by kernel_rfl) rfl #[.pointer (some ⟨g, 0, none⟩), .int .i64 2] rfl (by (try simp only [List.map_toArray, List.map_cons, List.map_nil]); first | done | rfl | (simp only [List.length_drop, List.length_take]; rfl)) ?_; (with_reducible refine (pochoirref07_Reader_Num.calls k g s0_0 s0_1 s0_2 2 ab ac ad ae w0 _ ?side1 ?side2 A2.out).mono ?_); (case side1 => repeat (first | (with_reducible first | exact HI0.out | apply IsS91.alloc | apply IsS91.drewN | apply IsS91.drew | apply IsS91.set_0 | apply IsS91.set_1 | apply IsS91.set_2) | exact HI0.out)); (case side2 => repeat (first | (with_reducible first | exact HB.out | apply below_alloc | apply pw_below_drewN | apply below_drew1 | refine below_set ?_ (IsS91.ge HI0.out)) | exact HB.out)); rintro e w5 ⟨rfl, hi, hb, hk⟩; refine ⟨_, rfl, ?_⟩; have af := Aside0.mk (KeepBut.trans (by repeat (first | (with_reducible first | exact HK.out | apply KeepBut.set_ | apply keep_drewN | apply keep_drew | apply keep_alloc) | exact HK.out)) hk (.inl rfl)); have ag := Aside0.mk (hb); have ah := Aside0.mk (hi); clear HK; clear HB; clear HI0; have HK := af; have HB := ag; have HI0 := ah; clear af ag ah; (try clear hb); (try clear an); (try clear hk); (try clear hi)))
  go_ret
  exact ⟨by first | rfl | (simp [errW_none, errW_some] <;> rfl) | (simp [*, errW_none, errW_some] <;> rfl), by repeat (first | (with_reducible first | exact HI0.out | apply IsS91.alloc | apply IsS91.drewN | apply IsS91.drew | apply IsS91.set_0 | apply IsS91.set_1 | apply IsS91.set_2) | exact HI0.out), by repeat (first | (with_reducible first | exact HB.out | apply below_alloc | apply pw_below_drewN | apply below_drew1 | refine below_set ?_ (IsS91.ge HI0.out)) | exact HB.out), by repeat (first | (with_reducible first | exact HK.out | apply KeepBut.set_ | apply keep_drewN | apply keep_drew | apply keep_alloc) | exact HK.out)⟩

end Go.Proofs.Ythnojbbfmcapnaa.Pr
