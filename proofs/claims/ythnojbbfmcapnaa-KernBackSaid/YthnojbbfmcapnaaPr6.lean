-- printed by a program of this session's (wip/mp.sh), out of the translation; the texts of its folder 'given' are typed by hand
-- shortened (wip/short.py)
import Derived.Test.YthnojbbfmcapnaaPr0
import Derived.Test.YthnojbbfmcapnaaPr5
namespace Go.Proofs.Ythnojbbfmcapnaa.Pr
open Go.RowKit Go.Proofs.YthnojbbfmcapnaaW.PrintWords Go.Proofs.YthnojbbfmcapnaaW.PrintLast Go.Proofs.YthnojbbfmcapnaaW.PrintMore
attribute [local go_sem] max2_int min2_int max_two min_two max_three min_three max_four min_four   -- for this text's walks alone
set_option linter.unusedVariables false
set_option linter.unusedSimpArgs false

/-! ### kern_May: function 9 -/
mutual
def kern_May.j0 : Nat → List (S41) → Int → Bool → Option (Bool)
 | 0, _, _, _ => none
 | k + 1, x0, x1, bv => if bv = true then (some false) else (kern_May.l0 k x0 x1 x0 (x0.length : Int) 0)
def kern_May.l0 : Nat → List (S41) → Int → List (S41) → Int → Int → Option (Bool)
 | 0, _, _, _, _, _ => none
 | k + 1, x0, x1, ar, aM, an => if an < aM then (if 0 ≤ an then (if an < (ar.length : Int) then (if (mn ((rd_T41 ar an).f0) ((rd_T41 ar an).f1)) < 0 then (some false) else (if (mx ((rd_T41 ar an).f0) ((rd_T41 ar an).f1)) ≥ x1 then (some false) else (if ((rd_T41 ar an).f2) < (-32768) then (some false) else (if ((rd_T41 ar an).f2) > 32767 then (some false) else ((kern_rises.f k x0 an).bind fun ao => (if ao = true then (kern_May.l0 k x0 x1 ar aM (wrap64 (an + 1))) else (some false))))))) else (none)) else (none)) else (some true)
end
def kern_May.f (k : Nat) (l0 : List (S41)) (a1 : Int) : Option (Bool) := if a1 < 1 then (kern_May.j0 k l0 a1 true) else (if a1 > 1024 then (kern_May.j0 k l0 a1 true) else (kern_May.j0 k l0 a1 (decide ((l0.length : Int) > 4096))))
theorem kern_May.mono_l : ∀ k, (∀ y0 y1 y2, LeO (kern_May.j0 k y0 y1 y2) (kern_May.j0 (k + 1) y0 y1 y2)) ∧ (∀ y0 y1 y2 y3 y4, LeO (kern_May.l0 k y0 y1 y2 y3 y4) (kern_May.l0 (k + 1) y0 y1 y2 y3 y4))
 | 0 => ⟨fun _ _ _ r h => by simp [kern_May.j0] at h, fun _ _ _ _ _ r h => by simp [kern_May.l0] at h⟩
 | k + 1 => by
  obtain ⟨ih0, ih1⟩ := kern_May.mono_l k
  refine ⟨?_, ?_⟩
  ·intro y0 y1 y2
   unfold kern_May.j0
   repeat' first
   | (with_reducible exact ih0 _ _ _)
   | (with_reducible exact ih1 _ _ _ _ _)
   | (with_reducible exact kern_rises.mono _ _ _)
   | (with_reducible exact LeO.refl _)
   | (with_reducible exact LeO.none _)
   | (with_reducible refine LeO.ite ?_ ?_)
   | (with_reducible refine LeO.bind ?_ (fun _ => ?_))
   | exact ih0 _ _ _
   | exact ih1 _ _ _ _ _
   | exact kern_rises.mono _ _ _
   | exact LeO.none _
   | refine LeO.ite ?_ ?_
   | refine LeO.bind ?_ (fun _ => ?_)
  ·intro y0 y1 y2 y3 y4
   unfold kern_May.l0
   repeat' first
   | (with_reducible exact ih0 _ _ _)
   | (with_reducible exact ih1 _ _ _ _ _)
   | (with_reducible exact kern_rises.mono _ _ _)
   | (with_reducible exact LeO.refl _)
   | (with_reducible exact LeO.none _)
   | (with_reducible refine LeO.ite ?_ ?_)
   | (with_reducible refine LeO.bind ?_ (fun _ => ?_))
   | exact ih0 _ _ _
   | exact ih1 _ _ _ _ _
   | exact kern_rises.mono _ _ _
   | exact LeO.none _
   | refine LeO.ite ?_ ?_
   | refine LeO.bind ?_ (fun _ => ?_)
theorem kern_May.mono : ∀ a0 a1 k, LeO (kern_May.f k a0 a1) (kern_May.f (k + 1) a0 a1) := by
 intro a0 a1 k
 obtain ⟨ih0, ih1⟩ := kern_May.mono_l k
 unfold kern_May.f
 repeat' first
   | (with_reducible exact ih0 _ _ _)
   | (with_reducible exact ih1 _ _ _ _ _)
   | (with_reducible exact kern_rises.mono _ _ _)
   | (with_reducible exact LeO.refl _)
   | (with_reducible exact LeO.none _)
   | (with_reducible refine LeO.ite ?_ ?_)
   | (with_reducible refine LeO.bind ?_ (fun _ => ?_))
   | exact ih0 _ _ _
   | exact ih1 _ _ _ _ _
   | exact kern_rises.mono _ _ _
   | exact LeO.none _
   | refine LeO.ite ?_ ?_
   | refine LeO.bind ?_ (fun _ => ?_)
set_option maxHeartbeats 8000000 in
set_option maxRecDepth 100000 in
theorem kern_May.calls (k : Nat) (A0 : Option Addr) (c0 : Nat) (l0 : List (S41)) (a1 : Int) (r : Bool) (w : World) (aN : Kd.C k41 w A0 l0.length l0) (aO : l0.length ≤ c0) (h : kern_May.f k l0 a1 = some r) :
  Calls Try.prog 9 #[.slice A0 l0.length c0, .int .i64 a1] w fun e w' => e = .returned (.bool r) ∧ Below w.heap.size w w' := by
 have bA := Try.underlying41
 have HR0 := Aside0.mk aN
 have aP := Aside0.mk aO
 clear aN aO
 have HB := Aside0.mk (Below.refl w.heap.size w)
 have H : (if a1 < 1 then (kern_May.j0 k l0 a1 true) else (if a1 > 1024 then (kern_May.j0 k l0 a1 true) else (kern_May.j0 k l0 a1 (decide ((l0.length : Int) > 4096))))) = some r := h
 clear h
 have az := Aside0.mk H
 clear H
 go_enter Try.func9, Try.ntmps9
 go_upto_region 1 with (fail)
 go_cut [17] (fun v17 wc => ∃ (kq : Nat) (au : Bool), v17 = .bool au ∧ Aside0 (kern_May.j0 kq l0 a1 au = some r) ∧ Aside0 (kq ≤ k) ∧ Aside0 (Below w.heap.size w wc))
 case first =>
  have H := az.out
  clear az
  by_cases c4 : a1 < 1
  ·rw [if_pos c4] at H
   have ap : decide (a1 < 1) = true := decide_eq_true c4
   clear c4
   (first | rw [ap] | (simp only [i64_w, i32_w]; rw [ap]) | skip)
   have H' := Aside0.mk H
   clear H
   go_wp2
   go_meet
   case rel => exact ⟨_, (true), (by first | rfl | (simp; done) | (simp [*]; done)), H', ⟨by first | omega | exact Nat.le_refl _⟩, ⟨by exact lB HB.out⟩⟩
  ·rw [if_neg c4] at H
   have ap : decide (a1 < 1) = false := decide_eq_false c4
   clear c4
   (first | rw [ap] | (simp only [i64_w, i32_w]; rw [ap]) | skip)
   by_cases c5 : a1 > 1024
   ·rw [if_pos c5] at H
    have ax : decide (1024 < a1) = true := decide_eq_true c5
    clear c5
    have H' := Aside0.mk H
    clear H
    go_wp2
    go_meet
    case rel => exact ⟨_, (true), (by first | rfl | (simp; done) | (simp [*]; done)), H', ⟨by first | omega | exact Nat.le_refl _⟩, ⟨by exact lB HB.out⟩⟩
   ·rw [if_neg c5] at H
    have ax : decide (1024 < a1) = false := decide_eq_false c5
    clear c5
    have H' := Aside0.mk H
    clear H
    go_wp2
    go_meet
    case rel => exact ⟨_, (decide ((l0.length : Int) > 4096)), (by first | rfl | (simp; done) | (simp [*]; done)), H', ⟨by first | omega | exact Nat.le_refl _⟩, ⟨by exact lB HB.out⟩⟩
 case rest =>
  clear az
  try clear p2
  try clear c4
  try clear ap
  try clear c5
  try clear ax
  obtain ⟨kq, au, rfl, HA, aQ, HB⟩ := hcut
  cases kq with
  | zero => exact absurd HA.out (by simp [kern_May.j0])
  | succ aA =>
   have H := HA.out
   clear HA
   simp only [kern_May.j0] at H
   by_cases c6 : au = true
   ·subst c6
    have H1 : (some false) = some r := by rw [if_pos rfl] at H; exact H
    clear H
    have H := H1
    clear H1
    obtain rfl := Option.some.inj H
    go_wp2
    go_ret
    exact ⟨by first | rfl | (simp [errW_none, errW_some] <;> rfl) | (simp [*, errW_none, errW_some] <;> rfl), by exact lB HB.out⟩
   ·replace c6 := Bool.eq_false_iff.mpr c6
    subst c6
    have H1 : (kern_May.l0 aA l0 a1 l0 (l0.length : Int) 0) = some r := by rw [if_neg (show ¬ (false = true) by decide)] at H; exact H
    clear H
    have H := H1
    clear H1
    have H' := Aside0.mk H
    clear H
    go_wp2
    go_loopg [20] aA (fun kq v20 w' => ∃ (aa : Int), v20 = .int .i64 aa ∧ Aside0 (kern_May.l0 kq l0 a1 l0 (l0.length : Int) aa = some r) ∧ Aside0 (kq ≤ aA) ∧ Aside0 (Below w.heap.size w w'))
    case atStart => exact ⟨(0), (by first | rfl | (simp; done) | (simp [*]; done)), H', ⟨Nat.le_refl _⟩, ⟨by exact lB HB.out⟩⟩
    case round =>
     clear H'
     try clear p2
     try clear c4
     try clear ap
     try clear c5
     try clear ax
     try clear c6
     try clear p2
     obtain ⟨aa, rfl, HA, HK2, HB⟩ := hrel
     cases gk with
     | zero => exact absurd HA.out (by simp [kern_May.l0])
     | succ k2 =>
      have H := HA.out
      clear HA
      simp only [kern_May.l0] at H
      by_cases c7 : aa < (l0.length : Int)
      ·rw [if_pos c7] at H
       have aR : decide (aa < (l0.length : Int)) = true := decide_eq_true c7
       clear c7
       by_cases c8 : 0 ≤ aa
       ·rw [if_pos c8] at H
        have bB : decide (0 ≤ aa) = true := decide_eq_true c8
        clear c8
        by_cases c9 : aa < (l0.length : Int)
        ·rw [if_pos c9] at H
         have bC : decide (aa < (l0.length : Int)) = true := decide_eq_true c9
         clear c9
         obtain ⟨av, al⟩ : ∃ j_ : Int, (mn ((rd_T41 l0 aa).f0) ((rd_T41 l0 aa).f1)) = j_ := ⟨_, rfl⟩
         replace H : (if (av) < 0 then (some false) else (if (mx ((rd_T41 l0 aa).f0) ((rd_T41 l0 aa).f1)) ≥ a1 then (some false) else (if ((rd_T41 l0 aa).f2) < (-32768) then (some false) else (if ((rd_T41 l0 aa).f2) > 32767 then (some false) else ((kern_rises.f k2 l0 aa).bind fun ao => (if ao = true then (kern_May.l0 k2 l0 a1 l0 (l0.length : Int) (wrap64 (aa + 1))) else (some false))))))) = some r := by first | (rw [al] at H; exact H) | (simp only [al] at H ⊢; exact H)
         have bw : (if ((rd_T41 l0 aa).f1) < ((rd_T41 l0 aa).f0) then ((rd_T41 l0 aa).f1) else ((rd_T41 l0 aa).f0)) = av := al
         by_cases c11 : (av) < 0
         ·rw [if_pos c11] at H
          have aI : decide ((av) < 0) = true := decide_eq_true c11
          clear c11
          obtain rfl := Option.some.inj H
          have p115 : 0 ≤ (aa : Int) := of_decide_eq_true (by first | (with_reducible assumption) | assumption)
          have q115 : aa < (l0.length : Int) := of_decide_eq_true (by first | (with_reducible assumption) | assumption)
          obtain ⟨ad115, e115, ad, ae, af⟩ := at_T41 HR0.out aa p115 q115
          cases e115
          replace ad := (HB.out.cell (World.block_lt_of_cell? w _ ad)).trans ad
          replace ae := (HB.out.cell (World.block_lt_of_cell? w _ ae)).trans ae
          replace af := (HB.out.cell (World.block_lt_of_cell? w _ af)).trans af
          replace p115 := eq_true p115
          replace q115 := eq_true q115
          go_wp2_with (first | ((with_reducible refine gate_dst (N := 6) rfl ?_); (try (refine gate_guard (by rfl) ?_; dsimp only)); refine box_event ?hg (N := 6) ?hd (cs := #[.int .i64 0, .int .i64 0, .int .i64 0]) (t := 41) ?hr ?_; (case hd => rfl); (case hg => rfl); (case hr => first | (go_simp; done) | (go_simp; rfl)); intro ac hg aB hbox hb; have ah := Aside0.mk (below_step (by exact lB HB.out) hb); have ai := Aside0.mk (hbox); have aj := Aside0.mk ((by rw [hg]; exact (below_size (by exact lB HB.out)) : w.heap.size ≤ ac)); have ak := Aside0.mk ((by rw [hg]; exact (below_size (by exact lB HB.out)) : w.heap.size ≤ ac)); clear HB; have HB := ah; have ab := ai; have aq := aj; have ag := ak; clear ah ai aj ak; clear hb hbox hg; have aS : aB.cell? ⟨ac, 0, none⟩ = some (.int .i64 0) := (blk_cell ab.out 0).trans rfl; have aT : aB.cell? ⟨ac, 1, none⟩ = some (.int .i64 0) := (blk_cell ab.out 1).trans rfl; have aU : aB.cell? ⟨ac, 2, none⟩ = some (.int .i64 0) := (blk_cell ab.out 2).trans rfl; have aV := blk_frozen ab.out 0; have aW := blk_frozen ab.out 1; have aX := blk_frozen ab.out 2))
          go_ret
          exact ⟨by first | rfl | (simp [errW_none, errW_some] <;> rfl) | (simp only [← al]; first | rfl | (simp [errW_none, errW_some] <;> rfl)) | (simp [*, errW_none, errW_some] <;> rfl), by exact lB HB.out⟩
         ·rw [if_neg c11] at H
          have aI : decide ((av) < 0) = false := decide_eq_false c11
          clear c11
          obtain ⟨aw, am⟩ : ∃ j_ : Int, (mx ((rd_T41 l0 aa).f0) ((rd_T41 l0 aa).f1)) = j_ := ⟨_, rfl⟩
          replace H : (if (aw) ≥ a1 then (some false) else (if ((rd_T41 l0 aa).f2) < (-32768) then (some false) else (if ((rd_T41 l0 aa).f2) > 32767 then (some false) else ((kern_rises.f k2 l0 aa).bind fun ao => (if ao = true then (kern_May.l0 k2 l0 a1 l0 (l0.length : Int) (wrap64 (aa + 1))) else (some false)))))) = some r := by first | (rw [am] at H; exact H) | (simp only [am] at H ⊢; exact H)
          have bx : (if ((rd_T41 l0 aa).f0) < ((rd_T41 l0 aa).f1) then ((rd_T41 l0 aa).f1) else ((rd_T41 l0 aa).f0)) = aw := am
          by_cases c15 : (aw) ≥ a1
          ·rw [if_pos c15] at H
           have aJ : decide (a1 ≤ (aw)) = true := decide_eq_true c15
           clear c15
           obtain rfl := Option.some.inj H
           have p115 : 0 ≤ (aa : Int) := of_decide_eq_true (by first | (with_reducible assumption) | assumption)
           have q115 : aa < (l0.length : Int) := of_decide_eq_true (by first | (with_reducible assumption) | assumption)
           obtain ⟨ad115, e115, ad, ae, af⟩ := at_T41 HR0.out aa p115 q115
           cases e115
           replace ad := (HB.out.cell (World.block_lt_of_cell? w _ ad)).trans ad
           replace ae := (HB.out.cell (World.block_lt_of_cell? w _ ae)).trans ae
           replace af := (HB.out.cell (World.block_lt_of_cell? w _ af)).trans af
           replace p115 := eq_true p115
           replace q115 := eq_true q115
           go_wp2_with (first | ((with_reducible refine gate_dst (N := 6) rfl ?_); (try (refine gate_guard (by rfl) ?_; dsimp only)); refine box_event ?hg (N := 6) ?hd (cs := #[.int .i64 0, .int .i64 0, .int .i64 0]) (t := 41) ?hr ?_; (case hd => rfl); (case hg => rfl); (case hr => first | (go_simp; done) | (go_simp; rfl)); intro ac hg aC hbox hb; have ah := Aside0.mk (below_step (by exact lB HB.out) hb); have ai := Aside0.mk (hbox); have aj := Aside0.mk ((by rw [hg]; exact (below_size (by exact lB HB.out)) : w.heap.size ≤ ac)); have ak := Aside0.mk ((by rw [hg]; exact (below_size (by exact lB HB.out)) : w.heap.size ≤ ac)); clear HB; have HB := ah; have ab := ai; have aq := aj; have ag := ak; clear ah ai aj ak; clear hb hbox hg; have aY : aC.cell? ⟨ac, 0, none⟩ = some (.int .i64 0) := (blk_cell ab.out 0).trans rfl; have aZ : aC.cell? ⟨ac, 1, none⟩ = some (.int .i64 0) := (blk_cell ab.out 1).trans rfl; have a2 : aC.cell? ⟨ac, 2, none⟩ = some (.int .i64 0) := (blk_cell ab.out 2).trans rfl; have a3 := blk_frozen ab.out 0; have a4 := blk_frozen ab.out 1; have a5 := blk_frozen ab.out 2))
           go_ret
           exact ⟨by first | rfl | (simp [errW_none, errW_some] <;> rfl) | (simp only [← al, ← am]; first | rfl | (simp [errW_none, errW_some] <;> rfl)) | (simp [*, errW_none, errW_some] <;> rfl), by exact lB HB.out⟩
          ·rw [if_neg c15] at H
           have aJ : decide (a1 ≤ (aw)) = false := decide_eq_false c15
           clear c15
           by_cases c18 : ((rd_T41 l0 aa).f2) < (-32768)
           ·rw [if_pos c18] at H
            have aK : decide (((rd_T41 l0 aa).f2) < (-32768)) = true := decide_eq_true c18
            clear c18
            obtain rfl := Option.some.inj H
            have p115 : 0 ≤ (aa : Int) := of_decide_eq_true (by first | (with_reducible assumption) | assumption)
            have q115 : aa < (l0.length : Int) := of_decide_eq_true (by first | (with_reducible assumption) | assumption)
            obtain ⟨ad115, e115, ad, ae, af⟩ := at_T41 HR0.out aa p115 q115
            cases e115
            replace ad := (HB.out.cell (World.block_lt_of_cell? w _ ad)).trans ad
            replace ae := (HB.out.cell (World.block_lt_of_cell? w _ ae)).trans ae
            replace af := (HB.out.cell (World.block_lt_of_cell? w _ af)).trans af
            replace p115 := eq_true p115
            replace q115 := eq_true q115
            go_wp2_with (first | ((with_reducible refine gate_dst (N := 6) rfl ?_); (try (refine gate_guard (by rfl) ?_; dsimp only)); refine box_event ?hg (N := 6) ?hd (cs := #[.int .i64 0, .int .i64 0, .int .i64 0]) (t := 41) ?hr ?_; (case hd => rfl); (case hg => rfl); (case hr => first | (go_simp; done) | (go_simp; rfl)); intro ac hg aD hbox hb; have ah := Aside0.mk (below_step (by exact lB HB.out) hb); have ai := Aside0.mk (hbox); have aj := Aside0.mk ((by rw [hg]; exact (below_size (by exact lB HB.out)) : w.heap.size ≤ ac)); have ak := Aside0.mk ((by rw [hg]; exact (below_size (by exact lB HB.out)) : w.heap.size ≤ ac)); clear HB; have HB := ah; have ab := ai; have aq := aj; have ag := ak; clear ah ai aj ak; clear hb hbox hg; have a6 : aD.cell? ⟨ac, 0, none⟩ = some (.int .i64 0) := (blk_cell ab.out 0).trans rfl; have a7 : aD.cell? ⟨ac, 1, none⟩ = some (.int .i64 0) := (blk_cell ab.out 1).trans rfl; have a8 : aD.cell? ⟨ac, 2, none⟩ = some (.int .i64 0) := (blk_cell ab.out 2).trans rfl; have a9 := blk_frozen ab.out 0; have ba := blk_frozen ab.out 1; have bb := blk_frozen ab.out 2))
            go_ret
            exact ⟨by first | rfl | (simp [errW_none, errW_some] <;> rfl) | (simp only [← al, ← am]; first | rfl | (simp [errW_none, errW_some] <;> rfl)) | (simp [*, errW_none, errW_some] <;> rfl), by exact lB HB.out⟩
           ·rw [if_neg c18] at H
            have aK : decide (((rd_T41 l0 aa).f2) < (-32768)) = false := decide_eq_false c18
            clear c18
            by_cases c21 : ((rd_T41 l0 aa).f2) > 32767
            ·rw [if_pos c21] at H
             have aL : decide (32767 < ((rd_T41 l0 aa).f2)) = true := decide_eq_true c21
             clear c21
             obtain rfl := Option.some.inj H
             have p115 : 0 ≤ (aa : Int) := of_decide_eq_true (by first | (with_reducible assumption) | assumption)
             have q115 : aa < (l0.length : Int) := of_decide_eq_true (by first | (with_reducible assumption) | assumption)
             obtain ⟨ad115, e115, ad, ae, af⟩ := at_T41 HR0.out aa p115 q115
             cases e115
             replace ad := (HB.out.cell (World.block_lt_of_cell? w _ ad)).trans ad
             replace ae := (HB.out.cell (World.block_lt_of_cell? w _ ae)).trans ae
             replace af := (HB.out.cell (World.block_lt_of_cell? w _ af)).trans af
             replace p115 := eq_true p115
             replace q115 := eq_true q115
             go_wp2_with (first | ((with_reducible refine gate_dst (N := 6) rfl ?_); (try (refine gate_guard (by rfl) ?_; dsimp only)); refine box_event ?hg (N := 6) ?hd (cs := #[.int .i64 0, .int .i64 0, .int .i64 0]) (t := 41) ?hr ?_; (case hd => rfl); (case hg => rfl); (case hr => first | (go_simp; done) | (go_simp; rfl)); intro ac hg aE hbox hb; have ah := Aside0.mk (below_step (by exact lB HB.out) hb); have ai := Aside0.mk (hbox); have aj := Aside0.mk ((by rw [hg]; exact (below_size (by exact lB HB.out)) : w.heap.size ≤ ac)); have ak := Aside0.mk ((by rw [hg]; exact (below_size (by exact lB HB.out)) : w.heap.size ≤ ac)); clear HB; have HB := ah; have ab := ai; have aq := aj; have ag := ak; clear ah ai aj ak; clear hb hbox hg; have bc : aE.cell? ⟨ac, 0, none⟩ = some (.int .i64 0) := (blk_cell ab.out 0).trans rfl; have bd : aE.cell? ⟨ac, 1, none⟩ = some (.int .i64 0) := (blk_cell ab.out 1).trans rfl; have be : aE.cell? ⟨ac, 2, none⟩ = some (.int .i64 0) := (blk_cell ab.out 2).trans rfl; have bf := blk_frozen ab.out 0; have bg := blk_frozen ab.out 1; have bh := blk_frozen ab.out 2))
             go_ret
             exact ⟨by first | rfl | (simp [errW_none, errW_some] <;> rfl) | (simp only [← al, ← am]; first | rfl | (simp [errW_none, errW_some] <;> rfl)) | (simp [*, errW_none, errW_some] <;> rfl), by exact lB HB.out⟩
            ·rw [if_neg c21] at H
             have aL : decide (32767 < ((rd_T41 l0 aa).f2)) = false := decide_eq_false c21
             clear c21
             replace H := Option.bind_eq_some_iff.mp H
             obtain ⟨ao, A240, H⟩ := H
             replace H : (if ao = true then (kern_May.l0 k2 l0 a1 l0 (l0.length : Int) (wrap64 (aa + 1))) else (some false)) = some r := H
             have A24 := Aside0.mk A240
             clear A240
             by_cases c25 : ao = true
             ·subst c25
              have H1 : (kern_May.l0 k2 l0 a1 l0 (l0.length : Int) (wrap64 (aa + 1))) = some r := by rw [if_pos rfl] at H; exact H
              clear H
              have H := H1
              clear H1
              have H' := Aside0.mk H
              clear H
              have p115 : 0 ≤ (aa : Int) := of_decide_eq_true (by first | (with_reducible assumption) | assumption)
              have q115 : aa < (l0.length : Int) := of_decide_eq_true (by first | (with_reducible assumption) | assumption)
              obtain ⟨ad115, e115, ad, ae, af⟩ := at_T41 HR0.out aa p115 q115
              cases e115
              replace ad := (HB.out.cell (World.block_lt_of_cell? w _ ad)).trans ad
              replace ae := (HB.out.cell (World.block_lt_of_cell? w _ ae)).trans ae
              replace af := (HB.out.cell (World.block_lt_of_cell? w _ af)).trans af
              replace p115 := eq_true p115
              replace q115 := eq_true q115
              go_wp2_with (first | ((with_reducible refine gate_dst (N := 6) rfl ?_); (try (refine gate_guard (by rfl) ?_; dsimp only)); refine box_event ?hg (N := 6) ?hd (cs := #[.int .i64 0, .int .i64 0, .int .i64 0]) (t := 41) ?hr ?_; (case hd => rfl); (case hg => rfl); (case hr => first | (go_simp; done) | (go_simp; rfl)); intro ac hg aF hbox hb; have ah := Aside0.mk (below_step (by exact lB HB.out) hb); have ai := Aside0.mk (hbox); have aj := Aside0.mk ((by rw [hg]; exact (below_size (by exact lB HB.out)) : w.heap.size ≤ ac)); have ak := Aside0.mk ((by rw [hg]; exact (below_size (by exact lB HB.out)) : w.heap.size ≤ ac)); clear HB; have HB := ah; have ab := ai; have aq := aj; have ag := ak; clear ah ai aj ak; clear hb hbox hg; have bi : aF.cell? ⟨ac, 0, none⟩ = some (.int .i64 0) := (blk_cell ab.out 0).trans rfl; have bj : aF.cell? ⟨ac, 1, none⟩ = some (.int .i64 0) := (blk_cell ab.out 1).trans rfl; have bk : aF.cell? ⟨ac, 2, none⟩ = some (.int .i64 0) := (blk_cell ab.out 2).trans rfl; have bl := blk_frozen ab.out 0; have bm := blk_frozen ab.out 1; have bn := blk_frozen ab.out 2) | (go_at_call 25; (with_reducible refine (kern_rises.calls k2 _ _ l0 aa true _ ?side1 ?side2 A24.out).mono ?_); (case side1 => exact Kd.C_below HR0.out (by exact lB HB.out)); (case side2 => exact aP.out); rintro e bD ⟨rfl, hb⟩; have ah := Aside0.mk (blk_below (g := ac) (o := .cells #[.int .i64 ((rd_T41 l0 aa).f0), .int .i64 ((rd_T41 l0 aa).f1), .int .i64 ((rd_T41 l0 aa).f2)] 41 (0, 0)) (by refine kB ?_; refine blk_put (cs := #[.int .i64 ((rd_T41 l0 aa).f0), .int .i64 ((rd_T41 l0 aa).f1), .int .i64 0]) ?_ 2 _ rfl; refine kB ?_; refine blk_put (cs := #[.int .i64 ((rd_T41 l0 aa).f0), .int .i64 0, .int .i64 0]) ?_ 1 _ rfl; refine kB ?_; refine blk_put (cs := #[.int .i64 0, .int .i64 0, .int .i64 0]) ?_ 0 _ rfl; refine kB ?_; exact ab.out) hb); have ai := Aside0.mk (below_step (by exact lB HB.out) hb); clear ab; clear HB; have ab := ah; have HB := ai; clear ah ai; (try clear hb); (try clear bz); (try clear hk); (try clear hi)))
              go_roundg k2
              case measure => have := aQ.out; have := HK2.out; omega
              case rel => exact ⟨(wrap64 (aa + 1)), (by first | rfl | (simp; done) | (simp [*]; done)), H', ⟨by have := aQ.out; have := HK2.out; omega⟩, ⟨by exact lB HB.out⟩⟩
             ·replace c25 := Bool.eq_false_iff.mpr c25
              subst c25
              have H1 : (some false) = some r := by rw [if_neg (show ¬ (false = true) by decide)] at H; exact H
              clear H
              have H := H1
              clear H1
              obtain rfl := Option.some.inj H
              have p115 : 0 ≤ (aa : Int) := of_decide_eq_true (by first | (with_reducible assumption) | assumption)
              have q115 : aa < (l0.length : Int) := of_decide_eq_true (by first | (with_reducible assumption) | assumption)
              obtain ⟨ad115, e115, ad, ae, af⟩ := at_T41 HR0.out aa p115 q115
              cases e115
              replace ad := (HB.out.cell (World.block_lt_of_cell? w _ ad)).trans ad
              replace ae := (HB.out.cell (World.block_lt_of_cell? w _ ae)).trans ae
              replace af := (HB.out.cell (World.block_lt_of_cell? w _ af)).trans af
              replace p115 := eq_true p115
              replace q115 := eq_true q115
              go_wp2_with (first | ((with_reducible refine gate_dst (N := 6) rfl ?_); (try (refine gate_guard (by rfl) ?_; dsimp only)); refine box_event ?hg (N := 6) ?hd (cs := #[.int .i64 0, .int .i64 0, .int .i64 0]) (t := 41) ?hr ?_; (case hd => rfl); (case hg => rfl); (case hr => first | (go_simp; done) | (go_simp; rfl)); intro ac hg aG hbox hb; have ah := Aside0.mk (below_step (by exact lB HB.out) hb); have ai := Aside0.mk (hbox); have aj := Aside0.mk ((by rw [hg]; exact (below_size (by exact lB HB.out)) : w.heap.size ≤ ac)); have ak := Aside0.mk ((by rw [hg]; exact (below_size (by exact lB HB.out)) : w.heap.size ≤ ac)); clear HB; have HB := ah; have ab := ai; have aq := aj; have ag := ak; clear ah ai aj ak; clear hb hbox hg; have bo : aG.cell? ⟨ac, 0, none⟩ = some (.int .i64 0) := (blk_cell ab.out 0).trans rfl; have bp : aG.cell? ⟨ac, 1, none⟩ = some (.int .i64 0) := (blk_cell ab.out 1).trans rfl; have bq : aG.cell? ⟨ac, 2, none⟩ = some (.int .i64 0) := (blk_cell ab.out 2).trans rfl; have br := blk_frozen ab.out 0; have bs := blk_frozen ab.out 1; have bu := blk_frozen ab.out 2) | (go_at_call 25; (with_reducible refine (kern_rises.calls k2 _ _ l0 aa false _ ?side1 ?side2 A24.out).mono ?_); (case side1 => exact Kd.C_below HR0.out (by exact lB HB.out)); (case side2 => exact aP.out); rintro e bE ⟨rfl, hb⟩; have ah := Aside0.mk (blk_below (g := ac) (o := .cells #[.int .i64 ((rd_T41 l0 aa).f0), .int .i64 ((rd_T41 l0 aa).f1), .int .i64 ((rd_T41 l0 aa).f2)] 41 (0, 0)) (by refine kB ?_; refine blk_put (cs := #[.int .i64 ((rd_T41 l0 aa).f0), .int .i64 ((rd_T41 l0 aa).f1), .int .i64 0]) ?_ 2 _ rfl; refine kB ?_; refine blk_put (cs := #[.int .i64 ((rd_T41 l0 aa).f0), .int .i64 0, .int .i64 0]) ?_ 1 _ rfl; refine kB ?_; refine blk_put (cs := #[.int .i64 0, .int .i64 0, .int .i64 0]) ?_ 0 _ rfl; refine kB ?_; exact ab.out) hb); have ai := Aside0.mk (below_step (by exact lB HB.out) hb); clear ab; clear HB; have ab := ah; have HB := ai; clear ah ai; (try clear hb); (try clear bz); (try clear hk); (try clear hi)))
              go_ret
              exact ⟨by first | rfl | (simp [errW_none, errW_some] <;> rfl) | (simp only [← al, ← am]; first | rfl | (simp [errW_none, errW_some] <;> rfl)) | (simp [*, errW_none, errW_some] <;> rfl), by exact lB HB.out⟩
        ·rw [if_neg c9] at H
         exact absurd H (by simp)
       ·rw [if_neg c8] at H
        exact absurd H (by simp)
      ·rw [if_neg c7] at H
       have aR : decide (aa < (l0.length : Int)) = false := decide_eq_false c7
       clear c7
       obtain rfl := Option.some.inj H
       go_wp2
       go_ret
       exact ⟨by first | rfl | (simp [errW_none, errW_some] <;> rfl) | (simp [*, errW_none, errW_some] <;> rfl), by exact lB HB.out⟩

end Go.Proofs.Ythnojbbfmcapnaa.Pr
