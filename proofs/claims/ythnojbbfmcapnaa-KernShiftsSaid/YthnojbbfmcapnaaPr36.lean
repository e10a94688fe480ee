-- printed by a program of this session's (wip/mp.sh), out of the translation; the texts of its folder 'given' are typed by hand
-- shortened (wip/short.py)
import Derived.Test.YthnojbbfmcapnaaPr0
import Derived.Test.YthnojbbfmcapnaaPr20
import Derived.Test.YthnojbbfmcapnaaPr21
import Derived.Test.YthnojbbfmcapnaaPr34
import Derived.Test.YthnojbbfmcapnaaPr35
namespace Go.Proofs.Ythnojbbfmcapnaa.Pr
open Go.RowKit Go.Proofs.YthnojbbfmcapnaaW.PrintWords Go.Proofs.YthnojbbfmcapnaaW.PrintLast Go.Proofs.YthnojbbfmcapnaaW.PrintMore
attribute [local go_sem] max2_int min2_int max_two min_two max_three min_three max_four min_four   -- for this text's walks alone
set_option linter.unusedVariables false
set_option linter.unusedSimpArgs false

/-! ### pochoirlaw40_KernShifts: function 5 -/
mutual
def pochoirlaw40_KernShifts.j0 : Nat → List (S41) → List (S43) → Bool → Option (Bool)
 | 0, _, _, _ => none
 | k + 1, x0, x1, b1 => if b1 = true then (some true) else (pochoirlaw40_KernShifts.l0 k x0 x1 x0 (x0.length : Int) 0)
def pochoirlaw40_KernShifts.l0 : Nat → List (S41) → List (S43) → List (S41) → Int → Int → Option (Bool)
 | 0, _, _, _, _, _ => none
 | k + 1, x0, x1, aN, bu, aH => if aH < bu then (if 0 ≤ aH then (if aH < (aN.length : Int) then (if ((rd_T41 aN aH).f2) > 1099511627776 then (some true) else (if ((rd_T41 aN aH).f2) < (-1099511627776) then (some true) else (pochoirlaw40_KernShifts.l0 k x0 x1 aN bu (wrap64 (aH + 1))))) else (none)) else (none)) else (pochoirlaw40_KernShifts.l1 k x0 x1 x1 (x1.length : Int) 0)
def pochoirlaw40_KernShifts.l1 : Nat → List (S41) → List (S43) → List (S43) → Int → Int → Option (Bool)
 | 0, _, _, _, _, _ => none
 | k + 1, x0, x1, aO, bv, aI => if aI < bv then (if 0 ≤ aI then (if aI < (aO.length : Int) then (if ((rd_T43 aO aI).f1) > 1099511627776 then (some true) else (if ((rd_T43 aO aI).f1) < (-1099511627776) then (some true) else (pochoirlaw40_KernShifts.l1 k x0 x1 aO bv (wrap64 (aI + 1))))) else (none)) else (none)) else ((kern_Shift.f k x0 x1).bind fun ay => ((pochoirref40_Shift.f k x0 x1).bind fun ax => ((pochoirref33_Same.f k ay ax).bind fun az => (if az = true then ((kern_Shift.f k ([] : List (S41)) x1).bind fun aw => ((pochoirref33_Same.f k aw x1).bind fun ar => (some ar))) else (some false)))))
end
def pochoirlaw40_KernShifts.f (k : Nat) (l0 : List (S41)) (l1 : List (S43)) : Option (Bool) := (pochoirlaw40_awake.f k).bind fun aD => (if aD = true then (if (l0.length : Int) > 100 then (pochoirlaw40_KernShifts.j0 k l0 l1 true) else (pochoirlaw40_KernShifts.j0 k l0 l1 (decide ((l1.length : Int) > 60)))) else (some false))
theorem pochoirlaw40_KernShifts.mono_l : ∀ k, (∀ y0 y1 y2, LeO (pochoirlaw40_KernShifts.j0 k y0 y1 y2) (pochoirlaw40_KernShifts.j0 (k + 1) y0 y1 y2)) ∧ (∀ y0 y1 y2 y3 y4, LeO (pochoirlaw40_KernShifts.l0 k y0 y1 y2 y3 y4) (pochoirlaw40_KernShifts.l0 (k + 1) y0 y1 y2 y3 y4)) ∧ (∀ y0 y1 y2 y3 y4, LeO (pochoirlaw40_KernShifts.l1 k y0 y1 y2 y3 y4) (pochoirlaw40_KernShifts.l1 (k + 1) y0 y1 y2 y3 y4))
 | 0 => ⟨fun _ _ _ r h => by simp [pochoirlaw40_KernShifts.j0] at h, fun _ _ _ _ _ r h => by simp [pochoirlaw40_KernShifts.l0] at h, fun _ _ _ _ _ r h => by simp [pochoirlaw40_KernShifts.l1] at h⟩
 | k + 1 => by
  obtain ⟨ih0, ih1, ih2⟩ := pochoirlaw40_KernShifts.mono_l k
  refine ⟨?_, ?_, ?_⟩
  ·intro y0 y1 y2
   unfold pochoirlaw40_KernShifts.j0
   repeat' first
   | (with_reducible exact ih0 _ _ _)
   | (with_reducible exact ih1 _ _ _ _ _)
   | (with_reducible exact ih2 _ _ _ _ _)
   | (with_reducible exact kern_Shift.mono _ _ _)
   | (with_reducible exact pochoirlaw40_awake.mono _)
   | (with_reducible exact pochoirref33_Same.mono _ _ _)
   | (with_reducible exact pochoirref40_Shift.mono _ _ _)
   | (with_reducible exact LeO.refl _)
   | (with_reducible exact LeO.none _)
   | (with_reducible refine LeO.ite ?_ ?_)
   | (with_reducible refine LeO.bind ?_ (fun _ => ?_))
   | exact ih0 _ _ _
   | exact ih1 _ _ _ _ _
   | exact ih2 _ _ _ _ _
   | exact kern_Shift.mono _ _ _
   | exact pochoirlaw40_awake.mono _
   | exact pochoirref33_Same.mono _ _ _
   | exact pochoirref40_Shift.mono _ _ _
   | exact LeO.none _
   | refine LeO.ite ?_ ?_
   | refine LeO.bind ?_ (fun _ => ?_)
  ·intro y0 y1 y2 y3 y4
   unfold pochoirlaw40_KernShifts.l0
   repeat' first
   | (with_reducible exact ih0 _ _ _)
   | (with_reducible exact ih1 _ _ _ _ _)
   | (with_reducible exact ih2 _ _ _ _ _)
   | (with_reducible exact kern_Shift.mono _ _ _)
   | (with_reducible exact pochoirlaw40_awake.mono _)
   | (with_reducible exact pochoirref33_Same.mono _ _ _)
   | (with_reducible exact pochoirref40_Shift.mono _ _ _)
   | (with_reducible exact LeO.refl _)
   | (with_reducible exact LeO.none _)
   | (with_reducible refine LeO.ite ?_ ?_)
   | (with_reducible refine LeO.bind ?_ (fun _ => ?_))
   | exact ih0 _ _ _
   | exact ih1 _ _ _ _ _
   | exact ih2 _ _ _ _ _
   | exact kern_Shift.mono _ _ _
   | exact pochoirlaw40_awake.mono _
   | exact pochoirref33_Same.mono _ _ _
   | exact pochoirref40_Shift.mono _ _ _
   | exact LeO.none _
   | refine LeO.ite ?_ ?_
   | refine LeO.bind ?_ (fun _ => ?_)
  ·intro y0 y1 y2 y3 y4
   unfold pochoirlaw40_KernShifts.l1
   repeat' first
   | (with_reducible exact ih0 _ _ _)
   | (with_reducible exact ih1 _ _ _ _ _)
   | (with_reducible exact ih2 _ _ _ _ _)
   | (with_reducible exact kern_Shift.mono _ _ _)
   | (with_reducible exact pochoirlaw40_awake.mono _)
   | (with_reducible exact pochoirref33_Same.mono _ _ _)
   | (with_reducible exact pochoirref40_Shift.mono _ _ _)
   | (with_reducible exact LeO.refl _)
   | (with_reducible exact LeO.none _)
   | (with_reducible refine LeO.ite ?_ ?_)
   | (with_reducible refine LeO.bind ?_ (fun _ => ?_))
   | exact ih0 _ _ _
   | exact ih1 _ _ _ _ _
   | exact ih2 _ _ _ _ _
   | exact kern_Shift.mono _ _ _
   | exact pochoirlaw40_awake.mono _
   | exact pochoirref33_Same.mono _ _ _
   | exact pochoirref40_Shift.mono _ _ _
   | exact LeO.none _
   | refine LeO.ite ?_ ?_
   | refine LeO.bind ?_ (fun _ => ?_)
theorem pochoirlaw40_KernShifts.mono : ∀ a0 a1 k, LeO (pochoirlaw40_KernShifts.f k a0 a1) (pochoirlaw40_KernShifts.f (k + 1) a0 a1) := by
 intro a0 a1 k
 obtain ⟨ih0, ih1, ih2⟩ := pochoirlaw40_KernShifts.mono_l k
 unfold pochoirlaw40_KernShifts.f
 repeat' first
   | (with_reducible exact ih0 _ _ _)
   | (with_reducible exact ih1 _ _ _ _ _)
   | (with_reducible exact ih2 _ _ _ _ _)
   | (with_reducible exact kern_Shift.mono _ _ _)
   | (with_reducible exact pochoirlaw40_awake.mono _)
   | (with_reducible exact pochoirref33_Same.mono _ _ _)
   | (with_reducible exact pochoirref40_Shift.mono _ _ _)
   | (with_reducible exact LeO.refl _)
   | (with_reducible exact LeO.none _)
   | (with_reducible refine LeO.ite ?_ ?_)
   | (with_reducible refine LeO.bind ?_ (fun _ => ?_))
   | exact ih0 _ _ _
   | exact ih1 _ _ _ _ _
   | exact ih2 _ _ _ _ _
   | exact kern_Shift.mono _ _ _
   | exact pochoirlaw40_awake.mono _
   | exact pochoirref33_Same.mono _ _ _
   | exact pochoirref40_Shift.mono _ _ _
   | exact LeO.none _
   | refine LeO.ite ?_ ?_
   | refine LeO.bind ?_ (fun _ => ?_)
set_option maxHeartbeats 8000000 in
set_option maxRecDepth 100000 in
theorem pochoirlaw40_KernShifts.calls (k : Nat) (A0 : Option Addr) (c0 : Nat) (l0 : List (S41)) (A1 : Option Addr) (c1 : Nat) (l1 : List (S43)) (r : Bool) (w : World) (bw : Kd.C k41 w A0 l0.length l0) (bx : l0.length ≤ c0) (bz : Kd.C k43 w A1 l1.length l1) (bA : l1.length ≤ c1) (h : pochoirlaw40_KernShifts.f k l0 l1 = some r) :
  Calls Try.prog 5 #[.slice A0 l0.length c0, .slice A1 l1.length c1] w fun e w' => e = .returned (.bool r) ∧ Below w.heap.size w w' := by
 have b4 := Try.underlying41
 have b5 := Try.underlying43
 have HR0 := Aside0.mk bw
 have aP := Aside0.mk bx
 clear bw bx
 have HR1 := Aside0.mk bz
 have aJ := Aside0.mk bA
 clear bz bA
 have HB := Aside0.mk (Below.refl w.heap.size w)
 have H : ((pochoirlaw40_awake.f k).bind fun aD => (if aD = true then (if (l0.length : Int) > 100 then (pochoirlaw40_KernShifts.j0 k l0 l1 true) else (pochoirlaw40_KernShifts.j0 k l0 l1 (decide ((l1.length : Int) > 60)))) else (some false))) = some r := h
 clear h
 replace H := Option.bind_eq_some_iff.mp H
 obtain ⟨aD, A30, H⟩ := H
 replace H : (if aD = true then (if (l0.length : Int) > 100 then (pochoirlaw40_KernShifts.j0 k l0 l1 true) else (pochoirlaw40_KernShifts.j0 k l0 l1 (decide ((l1.length : Int) > 60)))) else (some false)) = some r := H
 have A3 := Aside0.mk A30
 clear A30
 by_cases c4 : aD = true
 ·subst c4
  have H1 : (if (l0.length : Int) > 100 then (pochoirlaw40_KernShifts.j0 k l0 l1 true) else (pochoirlaw40_KernShifts.j0 k l0 l1 (decide ((l1.length : Int) > 60)))) = some r := by rw [if_pos rfl] at H; exact H
  clear H
  have H := H1
  clear H1
  have bf := Aside0.mk H
  clear H
  go_enter Try.func5, Try.ntmps5
  go_upto_region 3 with (first | ((with_reducible refine gate_callee (f := 6) rfl ?_); refine goesL_ (some 9) rfl rfl Try.func6 (by kernel_rfl) rfl #[] rfl (by (try simp only [List.map_toArray, List.map_cons, List.map_nil]); first | done | rfl | (simp only [List.length_drop, List.length_take]; rfl)) ?_; (with_reducible refine (pochoirlaw40_awake.calls k  true _ A3.out).mono ?_); rintro e w6 ⟨rfl, hb⟩; refine ⟨_, rfl, ?_⟩; have ac := Aside0.mk (below_step (by exact lB HB.out) hb); clear HB; have HB := ac; clear ac; (try clear hb); (try clear aK); (try clear hk); (try clear hi)))
  (try simp only [Act.put, List.setIfInBounds_toArray, List.set_cons_zero, List.set_cons_succ])
  go_cut [18] (fun v18 wc => ∃ (kq : Nat) (aF : Bool), v18 = .bool aF ∧ Aside0 (pochoirlaw40_KernShifts.j0 kq l0 l1 aF = some r) ∧ Aside0 (kq ≤ k) ∧ Aside0 (Below w.heap.size w wc))
  case first =>
   have H := bf.out
   clear bf
   by_cases c7 : (l0.length : Int) > 100
   ·rw [if_pos c7] at H
    have aA : decide (100 < (l0.length : Int)) = true := decide_eq_true c7
    have aL : decide (100 < l0.length) = true := decide_eq_true (by omega)
    clear c7
    (first | rw [aA] | (simp only [i64_w, i32_w]; rw [aA]) | skip)
    have H' := Aside0.mk H
    clear H
    go_wp2
    go_meet
    case rel => exact ⟨_, (true), (by first | rfl | (simp; done) | (simp [*]; done)), H', ⟨by first | omega | exact Nat.le_refl _⟩, ⟨by exact lB HB.out⟩⟩
   ·rw [if_neg c7] at H
    have aA : decide (100 < (l0.length : Int)) = false := decide_eq_false c7
    have aL : decide (100 < l0.length) = false := decide_eq_false (by omega)
    clear c7
    (first | rw [aA] | (simp only [i64_w, i32_w]; rw [aA]) | skip)
    have H' := Aside0.mk H
    clear H
    go_wp2
    go_meet
    case rel => exact ⟨_, (decide ((l1.length : Int) > 60)), (by first | rfl | (simp; done) | (simp [*]; done)), H', ⟨by first | omega | exact Nat.le_refl _⟩, ⟨by exact lB HB.out⟩⟩
  case rest =>
   clear bf
   try clear c1
   try clear p2
   try clear c4
   try clear c5
   try clear c6
   try clear c7
   try clear aA
   try clear aL
   obtain ⟨kq, aF, rfl, HA, aQ, HB⟩ := hcut
   cases kq with
   | zero => exact absurd HA.out (by simp [pochoirlaw40_KernShifts.j0])
   | succ bg =>
    have H := HA.out
    clear HA
    simp only [pochoirlaw40_KernShifts.j0] at H
    by_cases c8 : aF = true
    ·subst c8
     have H1 : (some true) = some r := by rw [if_pos rfl] at H; exact H
     clear H
     have H := H1
     clear H1
     obtain rfl := Option.some.inj H
     go_wp2
     go_ret
     exact ⟨by first | rfl | (simp [errW_none, errW_some] <;> rfl) | (simp [*, errW_none, errW_some] <;> rfl), by exact lB HB.out⟩
    ·replace c8 := Bool.eq_false_iff.mpr c8
     subst c8
     have H1 : (pochoirlaw40_KernShifts.l0 bg l0 l1 l0 (l0.length : Int) 0) = some r := by rw [if_neg (show ¬ (false = true) by decide)] at H; exact H
     clear H
     have H := H1
     clear H1
     have H' := Aside0.mk H
     clear H
     go_wp2
     go_loopg [21] bg (fun kq v21 w' => ∃ (aa : Int), v21 = .int .i64 aa ∧ Aside0 (pochoirlaw40_KernShifts.l0 kq l0 l1 l0 (l0.length : Int) aa = some r) ∧ Aside0 (kq ≤ bg) ∧ Aside0 (Below w.heap.size w w'))
     case atStart => exact ⟨(0), (by first | rfl | (simp; done) | (simp [*]; done)), H', ⟨Nat.le_refl _⟩, ⟨by exact lB HB.out⟩⟩
     case round =>
      clear H'
      try clear c1
      try clear p2
      try clear c4
      try clear c5
      try clear c6
      try clear c7
      try clear aA
      try clear aL
      try clear c8
      try clear p2
      obtain ⟨aa, rfl, HA, HK2, HB⟩ := hrel
      cases gk with
      | zero => exact absurd HA.out (by simp [pochoirlaw40_KernShifts.l0])
      | succ k2 =>
       have H := HA.out
       clear HA
       simp only [pochoirlaw40_KernShifts.l0] at H
       by_cases c9 : aa < (l0.length : Int)
       ·rw [if_pos c9] at H
        have bh : decide (aa < (l0.length : Int)) = true := decide_eq_true c9
        clear c9
        by_cases c10 : 0 ≤ aa
        ·rw [if_pos c10] at H
         have bo : decide (0 ≤ aa) = true := decide_eq_true c10
         clear c10
         by_cases c11 : aa < (l0.length : Int)
         ·rw [if_pos c11] at H
          have bp : decide (aa < (l0.length : Int)) = true := decide_eq_true c11
          clear c11
          by_cases c12 : ((rd_T41 l0 aa).f2) > 1099511627776
          ·rw [if_pos c12] at H
           have aR : decide (1099511627776 < ((rd_T41 l0 aa).f2)) = true := decide_eq_true c12
           clear c12
           obtain rfl := Option.some.inj H
           have p301 : 0 ≤ (aa : Int) := of_decide_eq_true (by first | (with_reducible assumption) | assumption)
           have q301 : aa < (l0.length : Int) := of_decide_eq_true (by first | (with_reducible assumption) | assumption)
           obtain ⟨ad301, e301, ah, ai, aj⟩ := at_T41 HR0.out aa p301 q301
           cases e301
           replace ah := (HB.out.cell (World.block_lt_of_cell? w _ ah)).trans ah
           replace ai := (HB.out.cell (World.block_lt_of_cell? w _ ai)).trans ai
           replace aj := (HB.out.cell (World.block_lt_of_cell? w _ aj)).trans aj
           replace p301 := eq_true p301
           replace q301 := eq_true q301
           go_wp2_with (first | ((with_reducible refine gate_dst (N := 6) rfl ?_); (try (refine gate_guard (by rfl) ?_; dsimp only)); refine box_event ?hg (N := 6) ?hd (cs := #[.int .i64 0, .int .i64 0, .int .i64 0]) (t := 41) ?hr ?_; (case hd => rfl); (case hg => rfl); (case hr => first | (go_simp; done) | (go_simp; rfl)); intro ak hg bi hbox hb; have ac := Aside0.mk (below_step (by exact lB HB.out) hb); have ag := Aside0.mk (hbox); have ap := Aside0.mk ((by rw [hg]; exact (below_size (by exact lB HB.out)) : w.heap.size ≤ ak)); have aq := Aside0.mk ((by rw [hg]; exact (below_size (by exact lB HB.out)) : w.heap.size ≤ ak)); clear HB; have HB := ac; have ad := ag; have aS := ap; have aB := aq; clear ac ag ap aq; clear hb hbox hg; have aV : bi.cell? ⟨ak, 0, none⟩ = some (.int .i64 0) := (blk_cell ad.out 0).trans rfl; have aW : bi.cell? ⟨ak, 1, none⟩ = some (.int .i64 0) := (blk_cell ad.out 1).trans rfl; have aX : bi.cell? ⟨ak, 2, none⟩ = some (.int .i64 0) := (blk_cell ad.out 2).trans rfl; have aY := blk_frozen ad.out 0; have aZ := blk_frozen ad.out 1; have a2 := blk_frozen ad.out 2))
           go_ret
           exact ⟨by first | rfl | (simp [errW_none, errW_some] <;> rfl) | (simp [*, errW_none, errW_some] <;> rfl), by exact lB HB.out⟩
          ·rw [if_neg c12] at H
           have aR : decide (1099511627776 < ((rd_T41 l0 aa).f2)) = false := decide_eq_false c12
           clear c12
           by_cases c15 : ((rd_T41 l0 aa).f2) < (-1099511627776)
           ·rw [if_pos c15] at H
            have aT : decide (((rd_T41 l0 aa).f2) < (-1099511627776)) = true := decide_eq_true c15
            clear c15
            obtain rfl := Option.some.inj H
            have p301 : 0 ≤ (aa : Int) := of_decide_eq_true (by first | (with_reducible assumption) | assumption)
            have q301 : aa < (l0.length : Int) := of_decide_eq_true (by first | (with_reducible assumption) | assumption)
            obtain ⟨ad301, e301, ah, ai, aj⟩ := at_T41 HR0.out aa p301 q301
            cases e301
            replace ah := (HB.out.cell (World.block_lt_of_cell? w _ ah)).trans ah
            replace ai := (HB.out.cell (World.block_lt_of_cell? w _ ai)).trans ai
            replace aj := (HB.out.cell (World.block_lt_of_cell? w _ aj)).trans aj
            replace p301 := eq_true p301
            replace q301 := eq_true q301
            go_wp2_with (first | ((with_reducible refine gate_dst (N := 6) rfl ?_); (try (refine gate_guard (by rfl) ?_; dsimp only)); refine box_event ?hg (N := 6) ?hd (cs := #[.int .i64 0, .int .i64 0, .int .i64 0]) (t := 41) ?hr ?_; (case hd => rfl); (case hg => rfl); (case hr => first | (go_simp; done) | (go_simp; rfl)); intro ak hg bj hbox hb; have ac := Aside0.mk (below_step (by exact lB HB.out) hb); have ag := Aside0.mk (hbox); have ap := Aside0.mk ((by rw [hg]; exact (below_size (by exact lB HB.out)) : w.heap.size ≤ ak)); have aq := Aside0.mk ((by rw [hg]; exact (below_size (by exact lB HB.out)) : w.heap.size ≤ ak)); clear HB; have HB := ac; have ad := ag; have aS := ap; have aB := aq; clear ac ag ap aq; clear hb hbox hg; have a3 : bj.cell? ⟨ak, 0, none⟩ = some (.int .i64 0) := (blk_cell ad.out 0).trans rfl; have a4 : bj.cell? ⟨ak, 1, none⟩ = some (.int .i64 0) := (blk_cell ad.out 1).trans rfl; have a5 : bj.cell? ⟨ak, 2, none⟩ = some (.int .i64 0) := (blk_cell ad.out 2).trans rfl; have a6 := blk_frozen ad.out 0; have a7 := blk_frozen ad.out 1; have a8 := blk_frozen ad.out 2))
            go_ret
            exact ⟨by first | rfl | (simp [errW_none, errW_some] <;> rfl) | (simp [*, errW_none, errW_some] <;> rfl), by exact lB HB.out⟩
           ·rw [if_neg c15] at H
            have aT : decide (((rd_T41 l0 aa).f2) < (-1099511627776)) = false := decide_eq_false c15
            clear c15
            have H' := Aside0.mk H
            clear H
            have p301 : 0 ≤ (aa : Int) := of_decide_eq_true (by first | (with_reducible assumption) | assumption)
            have q301 : aa < (l0.length : Int) := of_decide_eq_true (by first | (with_reducible assumption) | assumption)
            obtain ⟨ad301, e301, ah, ai, aj⟩ := at_T41 HR0.out aa p301 q301
            cases e301
            replace ah := (HB.out.cell (World.block_lt_of_cell? w _ ah)).trans ah
            replace ai := (HB.out.cell (World.block_lt_of_cell? w _ ai)).trans ai
            replace aj := (HB.out.cell (World.block_lt_of_cell? w _ aj)).trans aj
            replace p301 := eq_true p301
            replace q301 := eq_true q301
            go_wp2_with (first | ((with_reducible refine gate_dst (N := 6) rfl ?_); (try (refine gate_guard (by rfl) ?_; dsimp only)); refine box_event ?hg (N := 6) ?hd (cs := #[.int .i64 0, .int .i64 0, .int .i64 0]) (t := 41) ?hr ?_; (case hd => rfl); (case hg => rfl); (case hr => first | (go_simp; done) | (go_simp; rfl)); intro ak hg bk hbox hb; have ac := Aside0.mk (below_step (by exact lB HB.out) hb); have ag := Aside0.mk (hbox); have ap := Aside0.mk ((by rw [hg]; exact (below_size (by exact lB HB.out)) : w.heap.size ≤ ak)); have aq := Aside0.mk ((by rw [hg]; exact (below_size (by exact lB HB.out)) : w.heap.size ≤ ak)); clear HB; have HB := ac; have ad := ag; have aS := ap; have aB := aq; clear ac ag ap aq; clear hb hbox hg; have a9 : bk.cell? ⟨ak, 0, none⟩ = some (.int .i64 0) := (blk_cell ad.out 0).trans rfl; have ba : bk.cell? ⟨ak, 1, none⟩ = some (.int .i64 0) := (blk_cell ad.out 1).trans rfl; have bb : bk.cell? ⟨ak, 2, none⟩ = some (.int .i64 0) := (blk_cell ad.out 2).trans rfl; have bc := blk_frozen ad.out 0; have bd := blk_frozen ad.out 1; have be := blk_frozen ad.out 2))
            go_roundg k2
            case measure => have := aQ.out; have := HK2.out; omega
            case rel => exact ⟨(wrap64 (aa + 1)), (by first | rfl | (simp; done) | (simp [*]; done)), H', ⟨by have := aQ.out; have := HK2.out; omega⟩, ⟨by exact lB HB.out⟩⟩
         ·rw [if_neg c11] at H
          exact absurd H (by simp)
        ·rw [if_neg c10] at H
         exact absurd H (by simp)
       ·rw [if_neg c9] at H
        have bh : decide (aa < (l0.length : Int)) = false := decide_eq_false c9
        clear c9
        have H' := Aside0.mk H
        clear H
        go_wp2
        go_loopg [36] k2 (fun kq v36 w' => ∃ (ab : Int), v36 = .int .i64 ab ∧ Aside0 (pochoirlaw40_KernShifts.l1 kq l0 l1 l1 (l1.length : Int) ab = some r) ∧ Aside0 (kq ≤ k2) ∧ Aside0 (Below w.heap.size w w'))
        case atStart => exact ⟨(0), (by first | rfl | (simp; done) | (simp [*]; done)), H', ⟨Nat.le_refl _⟩, ⟨by exact lB HB.out⟩⟩
        case round =>
         clear H'
         try clear c1
         try clear p2
         try clear p3
         try clear q3
         try clear b8
         try clear c4
         try clear c5
         try clear c6
         try clear p6
         try clear c7
         try clear aA
         try clear aL
         try clear c8
         try clear c9
         try clear bh
         try clear c10
         try clear bo
         try clear c11
         try clear bp
         try clear c12
         try clear aR
         try clear c15
         try clear aT
         try clear aV
         try clear aW
         try clear aX
         try clear a3
         try clear a4
         try clear a5
         try clear a9
         try clear ba
         try clear bb
         try clear aY
         try clear aZ
         try clear a2
         try clear a6
         try clear a7
         try clear a8
         try clear bc
         try clear bd
         try clear be
         try clear ah
         try clear ai
         try clear aj
         try clear p2
         try clear p301
         try clear q301
         obtain ⟨ab, rfl, HA, HK3, HB⟩ := hrel
         cases gk with
         | zero => exact absurd HA.out (by simp [pochoirlaw40_KernShifts.l1])
         | succ k3 =>
          have H := HA.out
          clear HA
          simp only [pochoirlaw40_KernShifts.l1] at H
          by_cases c20 : ab < (l1.length : Int)
          ·rw [if_pos c20] at H
           have bq : decide (ab < (l1.length : Int)) = true := decide_eq_true c20
           clear c20
           by_cases c21 : 0 ≤ ab
           ·rw [if_pos c21] at H
            have b2 : decide (0 ≤ ab) = true := decide_eq_true c21
            clear c21
            by_cases c22 : ab < (l1.length : Int)
            ·rw [if_pos c22] at H
             have b3 : decide (ab < (l1.length : Int)) = true := decide_eq_true c22
             clear c22
             by_cases c23 : ((rd_T43 l1 ab).f1) > 1099511627776
             ·rw [if_pos c23] at H
              have br : decide (1099511627776 < ((rd_T43 l1 ab).f1)) = true := decide_eq_true c23
              clear c23
              obtain rfl := Option.some.inj H
              have p303 : 0 ≤ (ab : Int) := of_decide_eq_true (by first | (with_reducible assumption) | assumption)
              have q303 : ab < (l1.length : Int) := of_decide_eq_true (by first | (with_reducible assumption) | assumption)
              obtain ⟨ad303, e303, am, an, ao⟩ := at_T43 HR1.out ab p303 q303
              cases e303
              replace am := (HB.out.cell (World.block_lt_of_cell? w _ am)).trans am
              replace an := (HB.out.cell (World.block_lt_of_cell? w _ an)).trans an
              replace ao := (HB.out.cell (World.block_lt_of_cell? w _ ao)).trans ao
              replace p303 := eq_true p303
              replace q303 := eq_true q303
              go_wp2_with (first | ((with_reducible refine gate_dst (N := 8) rfl ?_); (try (refine gate_guard (by rfl) ?_; dsimp only)); refine box_event ?hg (N := 8) ?hd (cs := #[.int .i64 0, .int .i64 0, .int .i64 0]) (t := 43) ?hr ?_; (case hd => rfl); (case hg => rfl); (case hr => first | (go_simp; done) | (go_simp; rfl)); intro al hg bl hbox hb; have ac := Aside0.mk (below_step (by exact lB HB.out) hb); have ag := Aside0.mk (hbox); have ap := Aside0.mk ((by rw [hg]; exact (below_size (by exact lB HB.out)) : w.heap.size ≤ al)); have aq := Aside0.mk ((by rw [hg]; exact (below_size (by exact lB HB.out)) : w.heap.size ≤ al)); clear HB; have HB := ac; have ae := ag; have aU := ap; have aC := aq; clear ac ag ap aq; clear hb hbox hg; have bJ : bl.cell? ⟨al, 0, none⟩ = some (.int .i64 0) := (blk_cell ae.out 0).trans rfl; have bK : bl.cell? ⟨al, 1, none⟩ = some (.int .i64 0) := (blk_cell ae.out 1).trans rfl; have bL : bl.cell? ⟨al, 2, none⟩ = some (.int .i64 0) := (blk_cell ae.out 2).trans rfl; have bM := blk_frozen ae.out 0; have bN := blk_frozen ae.out 1; have bO := blk_frozen ae.out 2))
              go_ret
              exact ⟨by first | rfl | (simp [errW_none, errW_some] <;> rfl) | (simp [*, errW_none, errW_some] <;> rfl), by exact lB HB.out⟩
             ·rw [if_neg c23] at H
              have br : decide (1099511627776 < ((rd_T43 l1 ab).f1)) = false := decide_eq_false c23
              clear c23
              by_cases c26 : ((rd_T43 l1 ab).f1) < (-1099511627776)
              ·rw [if_pos c26] at H
               have bs : decide (((rd_T43 l1 ab).f1) < (-1099511627776)) = true := decide_eq_true c26
               clear c26
               obtain rfl := Option.some.inj H
               have p303 : 0 ≤ (ab : Int) := of_decide_eq_true (by first | (with_reducible assumption) | assumption)
               have q303 : ab < (l1.length : Int) := of_decide_eq_true (by first | (with_reducible assumption) | assumption)
               obtain ⟨ad303, e303, am, an, ao⟩ := at_T43 HR1.out ab p303 q303
               cases e303
               replace am := (HB.out.cell (World.block_lt_of_cell? w _ am)).trans am
               replace an := (HB.out.cell (World.block_lt_of_cell? w _ an)).trans an
               replace ao := (HB.out.cell (World.block_lt_of_cell? w _ ao)).trans ao
               replace p303 := eq_true p303
               replace q303 := eq_true q303
               go_wp2_with (first | ((with_reducible refine gate_dst (N := 8) rfl ?_); (try (refine gate_guard (by rfl) ?_; dsimp only)); refine box_event ?hg (N := 8) ?hd (cs := #[.int .i64 0, .int .i64 0, .int .i64 0]) (t := 43) ?hr ?_; (case hd => rfl); (case hg => rfl); (case hr => first | (go_simp; done) | (go_simp; rfl)); intro al hg bm hbox hb; have ac := Aside0.mk (below_step (by exact lB HB.out) hb); have ag := Aside0.mk (hbox); have ap := Aside0.mk ((by rw [hg]; exact (below_size (by exact lB HB.out)) : w.heap.size ≤ al)); have aq := Aside0.mk ((by rw [hg]; exact (below_size (by exact lB HB.out)) : w.heap.size ≤ al)); clear HB; have HB := ac; have ae := ag; have aU := ap; have aC := aq; clear ac ag ap aq; clear hb hbox hg; have bP : bm.cell? ⟨al, 0, none⟩ = some (.int .i64 0) := (blk_cell ae.out 0).trans rfl; have bQ : bm.cell? ⟨al, 1, none⟩ = some (.int .i64 0) := (blk_cell ae.out 1).trans rfl; have bR : bm.cell? ⟨al, 2, none⟩ = some (.int .i64 0) := (blk_cell ae.out 2).trans rfl; have bS := blk_frozen ae.out 0; have bT := blk_frozen ae.out 1; have bU := blk_frozen ae.out 2))
               go_ret
               exact ⟨by first | rfl | (simp [errW_none, errW_some] <;> rfl) | (simp [*, errW_none, errW_some] <;> rfl), by exact lB HB.out⟩
              ·rw [if_neg c26] at H
               have bs : decide (((rd_T43 l1 ab).f1) < (-1099511627776)) = false := decide_eq_false c26
               clear c26
               have H' := Aside0.mk H
               clear H
               have p303 : 0 ≤ (ab : Int) := of_decide_eq_true (by first | (with_reducible assumption) | assumption)
               have q303 : ab < (l1.length : Int) := of_decide_eq_true (by first | (with_reducible assumption) | assumption)
               obtain ⟨ad303, e303, am, an, ao⟩ := at_T43 HR1.out ab p303 q303
               cases e303
               replace am := (HB.out.cell (World.block_lt_of_cell? w _ am)).trans am
               replace an := (HB.out.cell (World.block_lt_of_cell? w _ an)).trans an
               replace ao := (HB.out.cell (World.block_lt_of_cell? w _ ao)).trans ao
               replace p303 := eq_true p303
               replace q303 := eq_true q303
               go_wp2_with (first | ((with_reducible refine gate_dst (N := 8) rfl ?_); (try (refine gate_guard (by rfl) ?_; dsimp only)); refine box_event ?hg (N := 8) ?hd (cs := #[.int .i64 0, .int .i64 0, .int .i64 0]) (t := 43) ?hr ?_; (case hd => rfl); (case hg => rfl); (case hr => first | (go_simp; done) | (go_simp; rfl)); intro al hg bn hbox hb; have ac := Aside0.mk (below_step (by exact lB HB.out) hb); have ag := Aside0.mk (hbox); have ap := Aside0.mk ((by rw [hg]; exact (below_size (by exact lB HB.out)) : w.heap.size ≤ al)); have aq := Aside0.mk ((by rw [hg]; exact (below_size (by exact lB HB.out)) : w.heap.size ≤ al)); clear HB; have HB := ac; have ae := ag; have aU := ap; have aC := aq; clear ac ag ap aq; clear hb hbox hg; have bV : bn.cell? ⟨al, 0, none⟩ = some (.int .i64 0) := (blk_cell ae.out 0).trans rfl; have bW : bn.cell? ⟨al, 1, none⟩ = some (.int .i64 0) := (blk_cell ae.out 1).trans rfl; have bX : bn.cell? ⟨al, 2, none⟩ = some (.int .i64 0) := (blk_cell ae.out 2).trans rfl; have bY := blk_frozen ae.out 0; have bZ := blk_frozen ae.out 1; have b0 := blk_frozen ae.out 2))
               go_roundg k3
               case measure => have := aQ.out; have := HK2.out; have := HK3.out; omega
               case rel => exact ⟨(wrap64 (ab + 1)), (by first | rfl | (simp; done) | (simp [*]; done)), H', ⟨by have := aQ.out; have := HK2.out; have := HK3.out; omega⟩, ⟨by exact lB HB.out⟩⟩
            ·rw [if_neg c22] at H
             exact absurd H (by simp)
           ·rw [if_neg c21] at H
            exact absurd H (by simp)
          ·rw [if_neg c20] at H
           have bq : decide (ab < (l1.length : Int)) = false := decide_eq_false c20
           clear c20
           replace H := Option.bind_eq_some_iff.mp H
           obtain ⟨ay, A310, H⟩ := H
           replace H : ((pochoirref40_Shift.f k3 l0 l1).bind fun ax => ((pochoirref33_Same.f k3 ay ax).bind fun az => (if az = true then ((kern_Shift.f k3 ([] : List (S41)) l1).bind fun aw => ((pochoirref33_Same.f k3 aw l1).bind fun ar => (some ar))) else (some false)))) = some r := H
           have A31 := Aside0.mk A310
           clear A310
           replace H := Option.bind_eq_some_iff.mp H
           obtain ⟨ax, A320, H⟩ := H
           replace H : ((pochoirref33_Same.f k3 ay ax).bind fun az => (if az = true then ((kern_Shift.f k3 ([] : List (S41)) l1).bind fun aw => ((pochoirref33_Same.f k3 aw l1).bind fun ar => (some ar))) else (some false))) = some r := H
           have A32 := Aside0.mk A320
           clear A320
           replace H := Option.bind_eq_some_iff.mp H
           obtain ⟨az, A330, H⟩ := H
           replace H : (if az = true then ((kern_Shift.f k3 ([] : List (S41)) l1).bind fun aw => ((pochoirref33_Same.f k3 aw l1).bind fun ar => (some ar))) else (some false)) = some r := H
           have A33 := Aside0.mk A330
           clear A330
           by_cases c34 : az = true
           ·subst c34
            have H1 : ((kern_Shift.f k3 ([] : List (S41)) l1).bind fun aw => ((pochoirref33_Same.f k3 aw l1).bind fun ar => (some ar))) = some r := by rw [if_pos rfl] at H; exact H
            clear H
            have H := H1
            clear H1
            replace H := Option.bind_eq_some_iff.mp H
            obtain ⟨aw, A350, H⟩ := H
            replace H : ((pochoirref33_Same.f k3 aw l1).bind fun ar => (some ar)) = some r := H
            have A35 := Aside0.mk A350
            clear A350
            replace H := Option.bind_eq_some_iff.mp H
            obtain ⟨ar, A360, H⟩ := H
            replace H : (some ar) = some r := H
            have A36 := Aside0.mk A360
            clear A360
            obtain rfl := Option.some.inj H
            go_wp2_with (first | ((with_reducible refine gate_callee (f := 17) rfl ?_); refine goesL_ (some 51) rfl rfl Try.func17 (by kernel_rfl) rfl #[.slice A0 l0.length c0, .slice A1 l1.length c1] rfl (by (try simp only [List.map_toArray, List.map_cons, List.map_nil]); first | done | rfl | (simp only [List.length_drop, List.length_take]; rfl)) ?_; (with_reducible refine (kern_Shift.calls k3 _ _ l0 _ _ l1 ay _ ?side1 ?side2 ?side3 ?side4 A31.out).mono ?_); (case side1 => repeat (first | exact (Kd.C_below HR0.out HB.out) | (with_reducible refine Kd.C_alloc ?_ _) | (with_reducible refine Kd.C_drewN ?_ _) | (with_reducible refine Kd.C_drew ?_))); (case side2 => exact aP.out); (case side3 => repeat (first | exact (Kd.C_below HR1.out HB.out) | (with_reducible refine Kd.C_alloc ?_ _) | (with_reducible refine Kd.C_drewN ?_ _) | (with_reducible refine Kd.C_drew ?_))); (case side4 => exact aJ.out); rintro e b9 ⟨v306, rfl, av, hb⟩; refine ⟨_, rfl, ?_⟩; have ac := Aside0.mk (Kd.R_lower av (below_size (by exact lB HB.out))); have ag := Aside0.mk (below_step (by exact lB HB.out) hb); clear HB; have af := ac; have HB := ag; clear ac ag; (try clear hb); (try clear aK); (try clear hk); (try clear hi); (try clear av)) | ((with_reducible refine gate_callee (f := 18) rfl ?_); refine goesL_ (some 54) rfl rfl Try.func18 (by kernel_rfl) rfl #[.slice A0 l0.length c0, .slice A1 l1.length c1] rfl (by (try simp only [List.map_toArray, List.map_cons, List.map_nil]); first | done | rfl | (simp only [List.length_drop, List.length_take]; rfl)) ?_; (with_reducible refine (pochoirref40_Shift.calls k3 _ _ l0 _ _ l1 ax _ ?side1 ?side2 ?side3 ?side4 A32.out).mono ?_); (case side1 => repeat (first | exact (Kd.C_below HR0.out HB.out) | (with_reducible refine Kd.C_alloc ?_ _) | (with_reducible refine Kd.C_drewN ?_ _) | (with_reducible refine Kd.C_drew ?_))); (case side2 => exact aP.out); (case side3 => repeat (first | exact (Kd.C_below HR1.out HB.out) | (with_reducible refine Kd.C_alloc ?_ _) | (with_reducible refine Kd.C_drewN ?_ _) | (with_reducible refine Kd.C_drew ?_))); (case side4 => exact aJ.out); rintro e ca ⟨v309, rfl, av, hb⟩; refine ⟨_, rfl, ?_⟩; have ac := Aside0.mk (Kd.R_elder' (by (with_reducible repeat (first | apply Kd.R_alloc | apply Kd.R_drewN | apply Kd.R_drew)); exact af.out) (Kd.R_base av) hb); have ag := Aside0.mk (Kd.R_lower (Kd.R_new' av (Kd.R_lt (by (with_reducible repeat (first | apply Kd.R_alloc | apply Kd.R_drewN | apply Kd.R_drew)); exact af.out))) (below_size (by exact lB HB.out))); have ap := Aside0.mk (below_step (by exact lB HB.out) hb); clear af; clear HB; have af := ac; have au := ag; have HB := ap; clear ac ag ap; (try clear hb); (try clear aK); (try clear hk); (try clear hi); (try clear av); obtain ⟨bB, bC, eo39⟩ := Kd.R_slice af.out; subst eo39; obtain ⟨bD, bE, eo40⟩ := Kd.R_slice au.out; subst eo40) | ((with_reducible refine gate_callee (f := 16) rfl ?_); refine goesL_ (some 55) rfl rfl Try.func16 (by kernel_rfl) rfl #[.slice bB ay.length bC, .slice bD ax.length bE] rfl (by (try simp only [List.map_toArray, List.map_cons, List.map_nil]); first | done | rfl | (simp only [List.length_drop, List.length_take]; rfl)) ?_; (with_reducible refine (pochoirref33_Same.calls k3 _ _ ay _ _ ax true _ ?side1 ?side2 ?side3 ?side4 A33.out).mono ?_); (case side1 => repeat (first | exact (Kd.R_reads' af.out).2.2 | (with_reducible refine Kd.C_alloc ?_ _) | (with_reducible refine Kd.C_drewN ?_ _) | (with_reducible refine Kd.C_drew ?_))); (case side2 => exact (Kd.R_reads' af.out).2.1); (case side3 => repeat (first | exact (Kd.R_reads' au.out).2.2 | (with_reducible refine Kd.C_alloc ?_ _) | (with_reducible refine Kd.C_drewN ?_ _) | (with_reducible refine Kd.C_drew ?_))); (case side4 => exact (Kd.R_reads' au.out).2.1); rintro e w' ⟨rfl, ⟨nd, rfl⟩⟩; refine ⟨_, rfl, ?_⟩) | (go_at_call 17; (refine (kern_Shift.calls k3 _ _ ([] : List (S41)) _ _ l1 aw _ ?side1 ?side2 ?side3 ?side4 A35.out).mono ?_); (case side1 => exact Kd.C_nil _ _); (case side2 => exact Nat.le_refl _); (case side3 => repeat (first | exact (Kd.C_below HR1.out (by exact lB HB.out)) | (with_reducible refine Kd.C_alloc ?_ _) | (with_reducible refine Kd.C_drewN ?_ _) | (with_reducible refine Kd.C_drew ?_))); (case side4 => exact aJ.out); rintro e cb ⟨v313, rfl, av, hb⟩; have ac := Aside0.mk (Kd.R_elder' (by (with_reducible repeat (first | apply Kd.R_alloc | apply Kd.R_drewN | apply Kd.R_drew)); exact af.out) (Kd.R_base av) hb); have ag := Aside0.mk (Kd.R_elder' (by (with_reducible repeat (first | apply Kd.R_alloc | apply Kd.R_drewN | apply Kd.R_drew)); exact au.out) (Kd.R_base av) hb); have ap := Aside0.mk (Kd.R_lower (Kd.R_new' (Kd.R_new' av (Kd.R_lt (by (with_reducible repeat (first | apply Kd.R_alloc | apply Kd.R_drewN | apply Kd.R_drew)); exact af.out))) (Kd.R_lt (by (with_reducible repeat (first | apply Kd.R_alloc | apply Kd.R_drewN | apply Kd.R_drew)); exact au.out))) (below_size (by exact lB HB.out))); have aq := Aside0.mk (below_step (by exact lB HB.out) hb); clear af; clear au; clear HB; have af := ac; have au := ag; have aM := ap; have HB := aq; clear ac ag ap aq; (try clear hb); (try clear aK); (try clear hk); (try clear hi); (try clear av); obtain ⟨b6, b7, eo42⟩ := Kd.R_slice aM.out; subst eo42) | (go_at_call 16; (with_reducible refine (pochoirref33_Same.calls k3 _ _ aw _ _ l1 ar _ ?side1 ?side2 ?side3 ?side4 A36.out).mono ?_); (case side1 => repeat (first | exact (Kd.R_reads' aM.out).2.2 | (with_reducible refine Kd.C_alloc ?_ _) | (with_reducible refine Kd.C_drewN ?_ _) | (with_reducible refine Kd.C_drew ?_))); (case side2 => exact (Kd.R_reads' aM.out).2.1); (case side3 => repeat (first | exact (Kd.C_below HR1.out HB.out) | (with_reducible refine Kd.C_alloc ?_ _) | (with_reducible refine Kd.C_drewN ?_ _) | (with_reducible refine Kd.C_drew ?_))); (case side4 => exact aJ.out); rintro e w' ⟨rfl, ⟨nd, rfl⟩⟩))
            go_ret
            exact ⟨by first | rfl | (simp [errW_none, errW_some] <;> rfl) | (simp [*, errW_none, errW_some] <;> rfl), by exact lB HB.out⟩
           ·replace c34 := Bool.eq_false_iff.mpr c34
            subst c34
            have H1 : (some false) = some r := by rw [if_neg (show ¬ (false = true) by decide)] at H; exact H
            clear H
            have H := H1
            clear H1
            obtain rfl := Option.some.inj H
            go_wp2_with (first | ((with_reducible refine gate_callee (f := 17) rfl ?_); refine goesL_ (some 51) rfl rfl Try.func17 (by kernel_rfl) rfl #[.slice A0 l0.length c0, .slice A1 l1.length c1] rfl (by (try simp only [List.map_toArray, List.map_cons, List.map_nil]); first | done | rfl | (simp only [List.length_drop, List.length_take]; rfl)) ?_; (with_reducible refine (kern_Shift.calls k3 _ _ l0 _ _ l1 ay _ ?side1 ?side2 ?side3 ?side4 A31.out).mono ?_); (case side1 => repeat (first | exact (Kd.C_below HR0.out HB.out) | (with_reducible refine Kd.C_alloc ?_ _) | (with_reducible refine Kd.C_drewN ?_ _) | (with_reducible refine Kd.C_drew ?_))); (case side2 => exact aP.out); (case side3 => repeat (first | exact (Kd.C_below HR1.out HB.out) | (with_reducible refine Kd.C_alloc ?_ _) | (with_reducible refine Kd.C_drewN ?_ _) | (with_reducible refine Kd.C_drew ?_))); (case side4 => exact aJ.out); rintro e cc ⟨v306, rfl, av, hb⟩; refine ⟨_, rfl, ?_⟩; have ac := Aside0.mk (Kd.R_lower av (below_size (by exact lB HB.out))); have ag := Aside0.mk (below_step (by exact lB HB.out) hb); clear HB; have af := ac; have HB := ag; clear ac ag; (try clear hb); (try clear aK); (try clear hk); (try clear hi); (try clear av)) | ((with_reducible refine gate_callee (f := 18) rfl ?_); refine goesL_ (some 54) rfl rfl Try.func18 (by kernel_rfl) rfl #[.slice A0 l0.length c0, .slice A1 l1.length c1] rfl (by (try simp only [List.map_toArray, List.map_cons, List.map_nil]); first | done | rfl | (simp only [List.length_drop, List.length_take]; rfl)) ?_; (with_reducible refine (pochoirref40_Shift.calls k3 _ _ l0 _ _ l1 ax _ ?side1 ?side2 ?side3 ?side4 A32.out).mono ?_); (case side1 => repeat (first | exact (Kd.C_below HR0.out HB.out) | (with_reducible refine Kd.C_alloc ?_ _) | (with_reducible refine Kd.C_drewN ?_ _) | (with_reducible refine Kd.C_drew ?_))); (case side2 => exact aP.out); (case side3 => repeat (first | exact (Kd.C_below HR1.out HB.out) | (with_reducible refine Kd.C_alloc ?_ _) | (with_reducible refine Kd.C_drewN ?_ _) | (with_reducible refine Kd.C_drew ?_))); (case side4 => exact aJ.out); rintro e cd ⟨v309, rfl, av, hb⟩; refine ⟨_, rfl, ?_⟩; have ac := Aside0.mk (Kd.R_elder' (by (with_reducible repeat (first | apply Kd.R_alloc | apply Kd.R_drewN | apply Kd.R_drew)); exact af.out) (Kd.R_base av) hb); have ag := Aside0.mk (Kd.R_lower (Kd.R_new' av (Kd.R_lt (by (with_reducible repeat (first | apply Kd.R_alloc | apply Kd.R_drewN | apply Kd.R_drew)); exact af.out))) (below_size (by exact lB HB.out))); have ap := Aside0.mk (below_step (by exact lB HB.out) hb); clear af; clear HB; have af := ac; have au := ag; have HB := ap; clear ac ag ap; (try clear hb); (try clear aK); (try clear hk); (try clear hi); (try clear av); obtain ⟨bF, bG, eo45⟩ := Kd.R_slice af.out; subst eo45; obtain ⟨bH, bI, eo46⟩ := Kd.R_slice au.out; subst eo46) | ((with_reducible refine gate_callee (f := 16) rfl ?_); refine goesL_ (some 55) rfl rfl Try.func16 (by kernel_rfl) rfl #[.slice bF ay.length bG, .slice bH ax.length bI] rfl (by (try simp only [List.map_toArray, List.map_cons, List.map_nil]); first | done | rfl | (simp only [List.length_drop, List.length_take]; rfl)) ?_; (with_reducible refine (pochoirref33_Same.calls k3 _ _ ay _ _ ax false _ ?side1 ?side2 ?side3 ?side4 A33.out).mono ?_); (case side1 => repeat (first | exact (Kd.R_reads' af.out).2.2 | (with_reducible refine Kd.C_alloc ?_ _) | (with_reducible refine Kd.C_drewN ?_ _) | (with_reducible refine Kd.C_drew ?_))); (case side2 => exact (Kd.R_reads' af.out).2.1); (case side3 => repeat (first | exact (Kd.R_reads' au.out).2.2 | (with_reducible refine Kd.C_alloc ?_ _) | (with_reducible refine Kd.C_drewN ?_ _) | (with_reducible refine Kd.C_drew ?_))); (case side4 => exact (Kd.R_reads' au.out).2.1); rintro e w' ⟨rfl, ⟨nd, rfl⟩⟩; refine ⟨_, rfl, ?_⟩))
            go_ret
            exact ⟨by first | rfl | (simp [errW_none, errW_some] <;> rfl) | (simp [*, errW_none, errW_some] <;> rfl), by exact lB HB.out⟩
 ·replace c4 := Bool.eq_false_iff.mpr c4
  subst c4
  have H1 : (some false) = some r := by rw [if_neg (show ¬ (false = true) by decide)] at H; exact H
  clear H
  have H := H1
  clear H1
  obtain rfl := Option.some.inj H
  go_enter Try.func5, Try.ntmps5
  go_wp2_with (first | ((with_reducible refine gate_callee (f := 6) rfl ?_); refine goesL_ (some 9) rfl rfl Try.func6 (by kernel_rfl) rfl #[] rfl (by (try simp only [List.map_toArray, List.map_cons, List.map_nil]); first | done | rfl | (simp only [List.length_drop, List.length_take]; rfl)) ?_; (with_reducible refine (pochoirlaw40_awake.calls k  false _ A3.out).mono ?_); rintro e ce ⟨rfl, hb⟩; refine ⟨_, rfl, ?_⟩; have ac := Aside0.mk (below_step (by exact lB HB.out) hb); clear HB; have HB := ac; clear ac; (try clear hb); (try clear aK); (try clear hk); (try clear hi)))
  go_ret
  exact ⟨by first | rfl | (simp [errW_none, errW_some] <;> rfl) | (simp [*, errW_none, errW_some] <;> rfl), by exact lB HB.out⟩

end Go.Proofs.Ythnojbbfmcapnaa.Pr
