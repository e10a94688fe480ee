-- printed by a program of this session's (wip/mp.sh), out of the translation; the texts of its folder 'given' are typed by hand
-- shortened (wip/short.py)
import Derived.Test.YtjcgmjhcaaaieaaDoorPr0
import Derived.Test.YtjcgmjhcaaaieaaDoorPr1
import Derived.Test.YtjcgmjhcaaaieaaDoorPr2
import Derived.Test.YtjcgmjhcaaaieaaDoorPr4
import Derived.Test.YtjcgmjhcaaaieaaDoorPr6
namespace Go.Proofs.YtjcgmjhcaaaieaaDoor.Pr
open Go.RowKit Go.Proofs.YtjcgmjhcaaaieaaDoorW.PrintWords Go.Proofs.YtjcgmjhcaaaieaaDoorW.PrintLast Go.Proofs.YtjcgmjhcaaaieaaDoorW.PrintMore
attribute [local go_sem] max2_int min2_int max_two min_two max_three min_three max_four min_four   -- for this text's walks alone
attribute [local go_sem high] eqA32
set_option linter.unusedVariables false
set_option linter.unusedSimpArgs false

attribute [local go_sem high] eqA50 eqA52
/-! ### atlas_entry: function 30 -/
def atlas_entry.j0 : Nat → Int → Bool → Int → Int → Int → Int → Int → Int → Int → Int → Int → Int → Option (Bool)
 | 0, _, _, _, _, _, _, _, _, _, _, _, _ => none
 | k + 1, x2, x7, bE, aJ, aK, aC, aD, aE, aF, aG, aL, aM => if x7 = true then (some false) else (if (aJ == 0 && (aK == 0 && (aC == 0 && (aD == 0)))) = true then (some (aE == 0 && (aF == 0 && (aG == 0)))) else ((atlas_within.f aE 0 (wrap64 (x2 - 1))).bind fun ax => (if ax = true then ((atlas_within.f aF 0 (wrap64 (aL - aC))).bind fun aw => (if aw = true then ((atlas_within.f aG 0 (wrap64 (aM - aD))).bind fun ap => (some ap)) else (some false))) else (some false))))
def atlas_entry.f (k : Nat) (ai : Int) (ae : Int) (af : Int) (ad : Int) (ac : Int) (ag : Int) (aj : Int) (ah : Int) (al : Int) (ak : Int) (a2 : Int) : Option (Bool) := (atlas_within.f ai 0 65535).bind fun ay => (if ay = true then ((cell_May.f ae af ad ac).bind fun au => (atlas_entry.j0 k a2 (!au) ai ae af ad ac ag aj ah al ak)) else (atlas_entry.j0 k a2 true ai ae af ad ac ag aj ah al ak))
theorem atlas_entry.mono_l : ∀ k, (∀ y0 y1 y2 y3 y4 y5 y6 y7 y8 y9 bu bv, LeO (atlas_entry.j0 k y0 y1 y2 y3 y4 y5 y6 y7 y8 y9 bu bv) (atlas_entry.j0 (k + 1) y0 y1 y2 y3 y4 y5 y6 y7 y8 y9 bu bv))
 | 0 => fun _ _ _ _ _ _ _ _ _ _ _ _ r h => by simp [atlas_entry.j0] at h
 | k + 1 => by
  have ih0 := atlas_entry.mono_l k
  ·intro y0 y1 y2 y3 y4 y5 y6 y7 y8 y9 bu bv
   unfold atlas_entry.j0
   repeat' first
   | (with_reducible exact ih0 _ _ _ _ _ _ _ _ _ _ _ _)
   | (with_reducible exact LeO.refl _)
   | (with_reducible exact LeO.none _)
   | (with_reducible refine LeO.ite ?_ ?_)
   | (with_reducible refine LeO.bind ?_ (fun _ => ?_))
   | exact ih0 _ _ _ _ _ _ _ _ _ _ _ _
   | exact LeO.none _
   | refine LeO.ite ?_ ?_
   | refine LeO.bind ?_ (fun _ => ?_)
theorem atlas_entry.mono : ∀ a0 a1 a2 a3 a4 a5 a6 a7 a8 a9 a10 k, LeO (atlas_entry.f k a0 a1 a2 a3 a4 a5 a6 a7 a8 a9 a10) (atlas_entry.f (k + 1) a0 a1 a2 a3 a4 a5 a6 a7 a8 a9 a10) := by
 intro a0 a1 a2 a3 a4 a5 a6 a7 a8 a9 a10 k
 have ih0 := atlas_entry.mono_l k
 unfold atlas_entry.f
 repeat' first
   | (with_reducible exact ih0 _ _ _ _ _ _ _ _ _ _ _ _)
   | (with_reducible exact LeO.refl _)
   | (with_reducible exact LeO.none _)
   | (with_reducible refine LeO.ite ?_ ?_)
   | (with_reducible refine LeO.bind ?_ (fun _ => ?_))
   | exact ih0 _ _ _ _ _ _ _ _ _ _ _ _
   | exact LeO.none _
   | refine LeO.ite ?_ ?_
   | refine LeO.bind ?_ (fun _ => ?_)
set_option maxHeartbeats 8000000 in
set_option maxRecDepth 100000 in
theorem atlas_entry.calls (k : Nat) (ai : Int) (ae : Int) (af : Int) (ad : Int) (ac : Int) (ag : Int) (aj : Int) (ah : Int) (al : Int) (ak : Int) (a2 : Int) (r : Bool) (w : World) (h : atlas_entry.f k ai ae af ad ac ag aj ah al ak a2 = some r) :
  Calls Tryd.prog 30 #[.agg #[.int .i64 ai, .int .i64 ae, .int .i64 af, .int .i64 ad, .int .i64 ac, .int .i64 ag, .int .i64 aj, .int .i64 ah], .agg #[.int .i64 al, .int .i64 ak], .int .i64 a2] w fun e w' => e = .returned (.bool r) ∧ Below w.heap.size w w' := by
 have da := Tryd.underlying54
 have db := Tryd.underlying23
 have dc := Tryd.underlying50
 have dd := Tryd.underlying52
 have HB := A_.mk (Below.refl w.heap.size w)
 have H : ((atlas_within.f ai 0 65535).bind fun ay => (if ay = true then ((cell_May.f ae af ad ac).bind fun au => (atlas_entry.j0 k a2 (!au) ai ae af ad ac ag aj ah al ak)) else (atlas_entry.j0 k a2 true ai ae af ad ac ag aj ah al ak))) = some r := h
 clear h
 have bw := A_.mk H
 clear H
 go_enter Tryd.func30, Tryd.ntmps30
 go_upto_region 1 with (first | ((with_reducible refine O_ (N := 3) rfl ?_); refine N_ ?hg (N := 3) ?hd (cs := #[.int .i64 ai, .int .i64 ae, .int .i64 af, .int .i64 ad, .int .i64 ac, .int .i64 ag, .int .i64 aj, .int .i64 ah]) (t := 54) ?hr ?_; (case hd => rfl); (case hg => rfl); (case hr => first | (go_simp; done) | (go_simp; rfl)); intro ab hg w5 hbox hb; have az := A_.mk (E_ (by exact lB HB.out) hb); have aA := A_.mk (hbox); have aB := A_.mk ((by rw [hg]; exact (G_ (by exact lB HB.out)) : w.heap.size ≤ ab)); have aI := A_.mk ((by rw [hg]; exact (G_ (by exact lB HB.out)) : w.heap.size ≤ ab)); clear HB; have HB := az; have aa := aA; have cQ := aB; have aq := aI; clear az aA aB aI; clear hb hbox hg) | ((with_reducible refine O_ (N := 4) rfl ?_); refine N_ ?hg (N := 4) ?hd (cs := #[.int .i64 al, .int .i64 ak]) (t := 23) ?hr ?_; (case hd => rfl); (case hg => rfl); (case hr => first | (go_simp; done) | (go_simp; rfl)); intro ar hg w6 hbox hb; have az := A_.mk (F_ (g := ab) (o := .cells #[.int .i64 ai, .int .i64 ae, .int .i64 af, .int .i64 ad, .int .i64 ac, .int .i64 ag, .int .i64 aj, .int .i64 ah] 54 (0, 0)) (by refine kB ?_; exact aa.out) hb); have aA := A_.mk (E_ (by exact lB HB.out) hb); have aB := A_.mk (hbox); have aI := A_.mk ((by rw [hg]; exact (G_ (by exact lB HB.out)) : w.heap.size ≤ ar)); have bB := A_.mk ((by rw [hg]; exact (G_ (by exact lB HB.out)) : w.heap.size ≤ ar)); have bC := A_.mk ((by rw [hg]; exact Nat.ne_of_lt (M_ (g := ab) (o := .cells #[.int .i64 ai, .int .i64 ae, .int .i64 af, .int .i64 ad, .int .i64 ac, .int .i64 ag, .int .i64 aj, .int .i64 ah] 54 (0, 0)) (by refine kB ?_; exact aa.out)) : ab ≠ ar)); have bD := A_.mk ((by rw [hg]; exact Nat.ne_of_gt (M_ (g := ab) (o := .cells #[.int .i64 ai, .int .i64 ae, .int .i64 af, .int .i64 ad, .int .i64 ac, .int .i64 ag, .int .i64 aj, .int .i64 ah] 54 (0, 0)) (by refine kB ?_; exact aa.out)) : ar ≠ ab)); clear aa; clear HB; have aa := az; have HB := aA; have am := aB; have cR := aI; have av := bB; have an := bC; have ao := bD; clear az aA aB aI bB bC bD; clear hb hbox hg))
 (try simp only [Act.put, List.setIfInBounds_toArray, List.set_cons_zero, List.set_cons_succ])
 go_cut [7] (fun v7 wc => ∃ (kq : Nat) (aH : Bool), v7 = .bool aH ∧ A_ (atlas_entry.j0 kq a2 aH ai ae af ad ac ag aj ah al ak = some r) ∧ A_ (kq ≤ k) ∧ A_ (wc.heap[ab]? = some (.cells #[.int .i64 ai, .int .i64 ae, .int .i64 af, .int .i64 ad, .int .i64 ac, .int .i64 ag, .int .i64 aj, .int .i64 ah] 54 (0, 0))) ∧ A_ (wc.heap[ar]? = some (.cells #[.int .i64 al, .int .i64 ak] 23 (0, 0))) ∧ A_ (Below w.heap.size w wc))
 case first =>
  have H := bw.out
  clear bw
  replace H := Option.bind_eq_some_iff.mp H
  obtain ⟨ay, A70, H⟩ := H
  replace H : (if ay = true then ((cell_May.f ae af ad ac).bind fun au => (atlas_entry.j0 k a2 (!au) ai ae af ad ac ag aj ah al ak)) else (atlas_entry.j0 k a2 true ai ae af ad ac ag aj ah al ak)) = some r := H
  have A7 := A_.mk A70
  clear A70
  by_cases c8 : ay = true
  ·subst c8
   have H1 : ((cell_May.f ae af ad ac).bind fun au => (atlas_entry.j0 k a2 (!au) ai ae af ad ac ag aj ah al ak)) = some r := by rw [if_pos rfl] at H; exact H
   clear H
   have H := H1
   clear H1
   replace H := Option.bind_eq_some_iff.mp H
   obtain ⟨au, A90, H⟩ := H
   replace H : (atlas_entry.j0 k a2 (!au) ai ae af ad ac ag aj ah al ak) = some r := H
   have A9 := A_.mk A90
   clear A90
   have H' := A_.mk H
   clear H
   have cS := an.out
   have cT := ao.out
   have aN : w6.cell? ⟨ab, 0, none⟩ = some (.int .i64 ai) := (D_ aa.out 0).trans rfl
   have aO : w6.cell? ⟨ab, 1, none⟩ = some (.int .i64 ae) := (D_ aa.out 1).trans rfl
   have aP : w6.cell? ⟨ab, 2, none⟩ = some (.int .i64 af) := (D_ aa.out 2).trans rfl
   have aQ : w6.cell? ⟨ab, 3, none⟩ = some (.int .i64 ad) := (D_ aa.out 3).trans rfl
   have aR : w6.cell? ⟨ab, 4, none⟩ = some (.int .i64 ac) := (D_ aa.out 4).trans rfl
   have aS : w6.cell? ⟨ab, 5, none⟩ = some (.int .i64 ag) := (D_ aa.out 5).trans rfl
   have aT : w6.cell? ⟨ab, 6, none⟩ = some (.int .i64 aj) := (D_ aa.out 6).trans rfl
   have aU : w6.cell? ⟨ab, 7, none⟩ = some (.int .i64 ah) := (D_ aa.out 7).trans rfl
   have aV := B_ aa.out 0
   have aW := B_ aa.out 1
   have aX := B_ aa.out 2
   have aY := B_ aa.out 3
   have aZ := B_ aa.out 4
   have ba := B_ aa.out 5
   have bb := B_ aa.out 6
   have bc := B_ aa.out 7
   go_wp2_with (first | ((with_reducible refine P_ (f := 39) rfl ?_); refine R_ (some 10) rfl rfl Tryd.func39 (by kernel_rfl) rfl #[.int .i64 ai, .int .i64 0, .int .i64 65535] rfl (by (try simp only [List.map_toArray, List.map_cons, List.map_nil]); first | done | rfl | (simp only [List.length_drop, List.length_take]; rfl)) ?_; (with_reducible refine (atlas_within.calls ai 0 65535 true _ A7.out).mono ?_); rintro e w' ⟨rfl, ⟨nd, rfl⟩⟩; refine ⟨_, rfl, ?_⟩) | (go_at_call 41; (with_reducible refine (cell_May.calls ae af ad ac au _ A9.out).mono ?_); rintro e de ⟨rfl, hb⟩; have az := A_.mk (F_ (g := ab) (o := .cells #[.int .i64 ai, .int .i64 ae, .int .i64 af, .int .i64 ad, .int .i64 ac, .int .i64 ag, .int .i64 aj, .int .i64 ah] 54 (0, 0)) (by refine kB ?_; exact aa.out) hb); have aA := A_.mk (F_ (g := ar) (o := .cells #[.int .i64 al, .int .i64 ak] 23 (0, 0)) (by refine kB ?_; exact am.out) hb); have aB := A_.mk (E_ (by exact lB HB.out) hb); clear aa; clear am; clear HB; have aa := az; have am := aA; have HB := aB; clear az aA aB; (try clear hb); (try clear df); (try clear hk); (try clear hi)))
   go_meet
   case rel => exact ⟨_, (!au), (by first | rfl | (simp; done) | (simp [*]; done)), H', ⟨by first | omega | exact Nat.le_refl _⟩, ⟨by refine kB ?_; exact aa.out⟩, ⟨by refine kB ?_; exact am.out⟩, ⟨by exact lB HB.out⟩⟩
  ·replace c8 := Bool.eq_false_iff.mpr c8
   subst c8
   have H1 : (atlas_entry.j0 k a2 true ai ae af ad ac ag aj ah al ak) = some r := by rw [if_neg (show ¬ (false = true) by decide)] at H; exact H
   clear H
   have H := H1
   clear H1
   have H' := A_.mk H
   clear H
   have cU := an.out
   have cV := ao.out
   have bd : w6.cell? ⟨ab, 0, none⟩ = some (.int .i64 ai) := (D_ aa.out 0).trans rfl
   have be : w6.cell? ⟨ab, 1, none⟩ = some (.int .i64 ae) := (D_ aa.out 1).trans rfl
   have bf : w6.cell? ⟨ab, 2, none⟩ = some (.int .i64 af) := (D_ aa.out 2).trans rfl
   have bg : w6.cell? ⟨ab, 3, none⟩ = some (.int .i64 ad) := (D_ aa.out 3).trans rfl
   have bh : w6.cell? ⟨ab, 4, none⟩ = some (.int .i64 ac) := (D_ aa.out 4).trans rfl
   have bi : w6.cell? ⟨ab, 5, none⟩ = some (.int .i64 ag) := (D_ aa.out 5).trans rfl
   have bj : w6.cell? ⟨ab, 6, none⟩ = some (.int .i64 aj) := (D_ aa.out 6).trans rfl
   have bk : w6.cell? ⟨ab, 7, none⟩ = some (.int .i64 ah) := (D_ aa.out 7).trans rfl
   have bl := B_ aa.out 0
   have bm := B_ aa.out 1
   have bn := B_ aa.out 2
   have bo := B_ aa.out 3
   have bp := B_ aa.out 4
   have bq := B_ aa.out 5
   have br := B_ aa.out 6
   have bs := B_ aa.out 7
   go_wp2_with (first | ((with_reducible refine P_ (f := 39) rfl ?_); refine R_ (some 10) rfl rfl Tryd.func39 (by kernel_rfl) rfl #[.int .i64 ai, .int .i64 0, .int .i64 65535] rfl (by (try simp only [List.map_toArray, List.map_cons, List.map_nil]); first | done | rfl | (simp only [List.length_drop, List.length_take]; rfl)) ?_; (with_reducible refine (atlas_within.calls ai 0 65535 false _ A7.out).mono ?_); rintro e w' ⟨rfl, ⟨nd, rfl⟩⟩; refine ⟨_, rfl, ?_⟩))
   go_meet
   case rel => exact ⟨_, (true), (by first | rfl | (simp; done) | (simp [*]; done)), H', ⟨by first | omega | exact Nat.le_refl _⟩, ⟨by refine kB ?_; exact aa.out⟩, ⟨by refine kB ?_; exact am.out⟩, ⟨by exact lB HB.out⟩⟩
 case rest =>
  clear bw
  try clear c1
  try clear p2
  try clear c3
  try clear c8
  try clear c10
  try clear c13
  try clear aN
  try clear aO
  try clear aP
  try clear aQ
  try clear aR
  try clear aS
  try clear aT
  try clear aU
  try clear bd
  try clear be
  try clear bf
  try clear bg
  try clear bh
  try clear bi
  try clear bj
  try clear bk
  try clear aV
  try clear aW
  try clear aX
  try clear aY
  try clear aZ
  try clear ba
  try clear bb
  try clear bc
  try clear bl
  try clear bm
  try clear bn
  try clear bo
  try clear bp
  try clear bq
  try clear br
  try clear bs
  obtain ⟨kq, aH, rfl, HA, dg, aa, am, HB⟩ := hcut
  cases kq with
  | zero => exact absurd HA.out (by simp [atlas_entry.j0])
  | succ dh =>
   have H := HA.out
   clear HA
   simp only [atlas_entry.j0] at H
   by_cases c15 : aH = true
   ·subst c15
    have H1 : (some false) = some r := by rw [if_pos rfl] at H; exact H
    clear H
    have H := H1
    clear H1
    obtain rfl := Option.some.inj H
    go_wp2
    go_ret
    exact ⟨by first | rfl | (simp [errW_none, errW_some] <;> rfl) | (simp [*, errW_none, errW_some] <;> rfl), by exact lB HB.out⟩
   ·replace c15 := Bool.eq_false_iff.mpr c15
    subst c15
    have H1 : (if (ae == 0 && (af == 0 && (ad == 0 && (ac == 0)))) = true then (some (ag == 0 && (aj == 0 && (ah == 0)))) else ((atlas_within.f ag 0 (wrap64 (a2 - 1))).bind fun ax => (if ax = true then ((atlas_within.f aj 0 (wrap64 (al - ad))).bind fun aw => (if aw = true then ((atlas_within.f ah 0 (wrap64 (ak - ac))).bind fun ap => (some ap)) else (some false))) else (some false)))) = some r := by rw [if_neg (show ¬ (false = true) by decide)] at H; exact H
    clear H
    have H := H1
    clear H1
    by_cases c16 : (ae == 0 && (af == 0 && (ad == 0 && (ac == 0)))) = true
    ·rw [if_pos c16] at H
     have bx : (ae == 0 && (af == 0 && (ad == 0 && (ac == 0)))) = true := c16
     (try (have bz : decide (ae = 0 && (af == 0 && (ad == 0 && (ac == 0)))) = true := by simpa using c16))
     (try (have bA : (ae == 0 && (af == 0 && (ad == 0 && (ac == 0)))) = true := by simpa using c16))
     clear c16
     obtain rfl := Option.some.inj H
     have cW := an.out
     have cX := ao.out
     have bF : wc.cell? ⟨ab, 0, none⟩ = some (.int .i64 ai) := (D_ aa.out 0).trans rfl
     have bG : wc.cell? ⟨ab, 1, none⟩ = some (.int .i64 ae) := (D_ aa.out 1).trans rfl
     have bH : wc.cell? ⟨ab, 2, none⟩ = some (.int .i64 af) := (D_ aa.out 2).trans rfl
     have bI : wc.cell? ⟨ab, 3, none⟩ = some (.int .i64 ad) := (D_ aa.out 3).trans rfl
     have bJ : wc.cell? ⟨ab, 4, none⟩ = some (.int .i64 ac) := (D_ aa.out 4).trans rfl
     have bK : wc.cell? ⟨ab, 5, none⟩ = some (.int .i64 ag) := (D_ aa.out 5).trans rfl
     have bL : wc.cell? ⟨ab, 6, none⟩ = some (.int .i64 aj) := (D_ aa.out 6).trans rfl
     have bM : wc.cell? ⟨ab, 7, none⟩ = some (.int .i64 ah) := (D_ aa.out 7).trans rfl
     have bN := B_ aa.out 0
     have bO := B_ aa.out 1
     have bP := B_ aa.out 2
     have bQ := B_ aa.out 3
     have bR := B_ aa.out 4
     have bS := B_ aa.out 5
     have bT := B_ aa.out 6
     have bU := B_ aa.out 7
     go_wp2
     go_ret
     exact ⟨by first | rfl | (simp [errW_none, errW_some] <;> rfl) | (simp [*, errW_none, errW_some] <;> rfl), by exact lB HB.out⟩
    ·rw [if_neg c16] at H
     have bx : (ae == 0 && (af == 0 && (ad == 0 && (ac == 0)))) = false := by simpa using c16
     (try (have bz : decide (ae = 0 && (af == 0 && (ad == 0 && (ac == 0)))) = false := by simpa using c16))
     (try (have bA : (ae == 0 && (af == 0 && (ad == 0 && (ac == 0)))) = false := by simpa using c16))
     (try (have cY : ¬ (ae = 0 && (af == 0 && (ad == 0 && (ac == 0)))) := by simpa using c16))
     clear c16
     replace H := Option.bind_eq_some_iff.mp H
     obtain ⟨ax, A190, H⟩ := H
     replace H : (if ax = true then ((atlas_within.f aj 0 (wrap64 (al - ad))).bind fun aw => (if aw = true then ((atlas_within.f ah 0 (wrap64 (ak - ac))).bind fun ap => (some ap)) else (some false))) else (some false)) = some r := H
     have A19 := A_.mk A190
     clear A190
     by_cases c20 : ax = true
     ·subst c20
      have H1 : ((atlas_within.f aj 0 (wrap64 (al - ad))).bind fun aw => (if aw = true then ((atlas_within.f ah 0 (wrap64 (ak - ac))).bind fun ap => (some ap)) else (some false))) = some r := by rw [if_pos rfl] at H; exact H
      clear H
      have H := H1
      clear H1
      replace H := Option.bind_eq_some_iff.mp H
      obtain ⟨aw, A210, H⟩ := H
      replace H : (if aw = true then ((atlas_within.f ah 0 (wrap64 (ak - ac))).bind fun ap => (some ap)) else (some false)) = some r := H
      have A21 := A_.mk A210
      clear A210
      by_cases c22 : aw = true
      ·subst c22
       have H1 : ((atlas_within.f ah 0 (wrap64 (ak - ac))).bind fun ap => (some ap)) = some r := by rw [if_pos rfl] at H; exact H
       clear H
       have H := H1
       clear H1
       replace H := Option.bind_eq_some_iff.mp H
       obtain ⟨ap, A230, H⟩ := H
       replace H : (some ap) = some r := H
       have A23 := A_.mk A230
       clear A230
       obtain rfl := Option.some.inj H
       have cZ := an.out
       have c0 := ao.out
       have bV : wc.cell? ⟨ab, 0, none⟩ = some (.int .i64 ai) := (D_ aa.out 0).trans rfl
       have bW : wc.cell? ⟨ab, 1, none⟩ = some (.int .i64 ae) := (D_ aa.out 1).trans rfl
       have bX : wc.cell? ⟨ab, 2, none⟩ = some (.int .i64 af) := (D_ aa.out 2).trans rfl
       have bY : wc.cell? ⟨ab, 3, none⟩ = some (.int .i64 ad) := (D_ aa.out 3).trans rfl
       have bZ : wc.cell? ⟨ab, 4, none⟩ = some (.int .i64 ac) := (D_ aa.out 4).trans rfl
       have b0 : wc.cell? ⟨ab, 5, none⟩ = some (.int .i64 ag) := (D_ aa.out 5).trans rfl
       have b1 : wc.cell? ⟨ab, 6, none⟩ = some (.int .i64 aj) := (D_ aa.out 6).trans rfl
       have b2 : wc.cell? ⟨ab, 7, none⟩ = some (.int .i64 ah) := (D_ aa.out 7).trans rfl
       have b3 := B_ aa.out 0
       have b4 := B_ aa.out 1
       have b5 := B_ aa.out 2
       have b6 := B_ aa.out 3
       have b7 := B_ aa.out 4
       have b8 := B_ aa.out 5
       have b9 := B_ aa.out 6
       have ca := B_ aa.out 7
       go_wp2_with (first | ((with_reducible refine P_ (f := 39) rfl ?_); refine R_ (some 32) rfl rfl Tryd.func39 (by kernel_rfl) rfl #[.int .i64 ag, .int .i64 0, .int .i64 (wrap64 (a2 - 1))] rfl (by (try simp only [List.map_toArray, List.map_cons, List.map_nil]); first | done | rfl | (simp only [List.length_drop, List.length_take]; rfl)) ?_; (with_reducible refine (atlas_within.calls ag 0 (wrap64 (a2 - 1)) true _ A19.out).mono ?_); rintro e w' ⟨rfl, ⟨nd, rfl⟩⟩; refine ⟨_, rfl, ?_⟩; have cb : wc.cell? ⟨ar, 0, none⟩ = some (.int .i64 al) := (D_ am.out 0).trans rfl; have cc : wc.cell? ⟨ar, 1, none⟩ = some (.int .i64 ak) := (D_ am.out 1).trans rfl; have cd := B_ am.out 0; have ce := B_ am.out 1) | (go_at_call 39; (with_reducible refine (atlas_within.calls aj 0 (wrap64 (al - ad)) true _ A21.out).mono ?_); rintro e w' ⟨rfl, ⟨nd, rfl⟩⟩) | (go_at_call 39; (with_reducible refine (atlas_within.calls ah 0 (wrap64 (ak - ac)) ap _ A23.out).mono ?_); rintro e w' ⟨rfl, ⟨nd, rfl⟩⟩))
       go_ret
       exact ⟨by first | rfl | (simp [errW_none, errW_some] <;> rfl) | (simp [*, errW_none, errW_some] <;> rfl), by exact lB HB.out⟩
      ·replace c22 := Bool.eq_false_iff.mpr c22
       subst c22
       have H1 : (some false) = some r := by rw [if_neg (show ¬ (false = true) by decide)] at H; exact H
       clear H
       have H := H1
       clear H1
       obtain rfl := Option.some.inj H
       have c2 := an.out
       have c4 := ao.out
       have cf : wc.cell? ⟨ab, 0, none⟩ = some (.int .i64 ai) := (D_ aa.out 0).trans rfl
       have cg : wc.cell? ⟨ab, 1, none⟩ = some (.int .i64 ae) := (D_ aa.out 1).trans rfl
       have ch : wc.cell? ⟨ab, 2, none⟩ = some (.int .i64 af) := (D_ aa.out 2).trans rfl
       have ci : wc.cell? ⟨ab, 3, none⟩ = some (.int .i64 ad) := (D_ aa.out 3).trans rfl
       have cj : wc.cell? ⟨ab, 4, none⟩ = some (.int .i64 ac) := (D_ aa.out 4).trans rfl
       have ck : wc.cell? ⟨ab, 5, none⟩ = some (.int .i64 ag) := (D_ aa.out 5).trans rfl
       have cl : wc.cell? ⟨ab, 6, none⟩ = some (.int .i64 aj) := (D_ aa.out 6).trans rfl
       have cm : wc.cell? ⟨ab, 7, none⟩ = some (.int .i64 ah) := (D_ aa.out 7).trans rfl
       have cn := B_ aa.out 0
       have co := B_ aa.out 1
       have cp := B_ aa.out 2
       have cq := B_ aa.out 3
       have cr := B_ aa.out 4
       have ct := B_ aa.out 5
       have cu := B_ aa.out 6
       have cv := B_ aa.out 7
       go_wp2_with (first | ((with_reducible refine P_ (f := 39) rfl ?_); refine R_ (some 32) rfl rfl Tryd.func39 (by kernel_rfl) rfl #[.int .i64 ag, .int .i64 0, .int .i64 (wrap64 (a2 - 1))] rfl (by (try simp only [List.map_toArray, List.map_cons, List.map_nil]); first | done | rfl | (simp only [List.length_drop, List.length_take]; rfl)) ?_; (with_reducible refine (atlas_within.calls ag 0 (wrap64 (a2 - 1)) true _ A19.out).mono ?_); rintro e w' ⟨rfl, ⟨nd, rfl⟩⟩; refine ⟨_, rfl, ?_⟩; have cw : wc.cell? ⟨ar, 0, none⟩ = some (.int .i64 al) := (D_ am.out 0).trans rfl; have cx : wc.cell? ⟨ar, 1, none⟩ = some (.int .i64 ak) := (D_ am.out 1).trans rfl; have cy := B_ am.out 0; have cz := B_ am.out 1) | (go_at_call 39; (with_reducible refine (atlas_within.calls aj 0 (wrap64 (al - ad)) false _ A21.out).mono ?_); rintro e w' ⟨rfl, ⟨nd, rfl⟩⟩))
       go_ret
       exact ⟨by first | rfl | (simp [errW_none, errW_some] <;> rfl) | (simp [*, errW_none, errW_some] <;> rfl), by exact lB HB.out⟩
     ·replace c20 := Bool.eq_false_iff.mpr c20
      subst c20
      have H1 : (some false) = some r := by rw [if_neg (show ¬ (false = true) by decide)] at H; exact H
      clear H
      have H := H1
      clear H1
      obtain rfl := Option.some.inj H
      have c5 := an.out
      have c6 := ao.out
      have cA : wc.cell? ⟨ab, 0, none⟩ = some (.int .i64 ai) := (D_ aa.out 0).trans rfl
      have cB : wc.cell? ⟨ab, 1, none⟩ = some (.int .i64 ae) := (D_ aa.out 1).trans rfl
      have cC : wc.cell? ⟨ab, 2, none⟩ = some (.int .i64 af) := (D_ aa.out 2).trans rfl
      have cD : wc.cell? ⟨ab, 3, none⟩ = some (.int .i64 ad) := (D_ aa.out 3).trans rfl
      have cE : wc.cell? ⟨ab, 4, none⟩ = some (.int .i64 ac) := (D_ aa.out 4).trans rfl
      have cF : wc.cell? ⟨ab, 5, none⟩ = some (.int .i64 ag) := (D_ aa.out 5).trans rfl
      have cG : wc.cell? ⟨ab, 6, none⟩ = some (.int .i64 aj) := (D_ aa.out 6).trans rfl
      have cH : wc.cell? ⟨ab, 7, none⟩ = some (.int .i64 ah) := (D_ aa.out 7).trans rfl
      have cI := B_ aa.out 0
      have cJ := B_ aa.out 1
      have cK := B_ aa.out 2
      have cL := B_ aa.out 3
      have cM := B_ aa.out 4
      have cN := B_ aa.out 5
      have cO := B_ aa.out 6
      have cP := B_ aa.out 7
      go_wp2_with (first | ((with_reducible refine P_ (f := 39) rfl ?_); refine R_ (some 32) rfl rfl Tryd.func39 (by kernel_rfl) rfl #[.int .i64 ag, .int .i64 0, .int .i64 (wrap64 (a2 - 1))] rfl (by (try simp only [List.map_toArray, List.map_cons, List.map_nil]); first | done | rfl | (simp only [List.length_drop, List.length_take]; rfl)) ?_; (with_reducible refine (atlas_within.calls ag 0 (wrap64 (a2 - 1)) false _ A19.out).mono ?_); rintro e w' ⟨rfl, ⟨nd, rfl⟩⟩; refine ⟨_, rfl, ?_⟩))
      go_ret
      exact ⟨by first | rfl | (simp [errW_none, errW_some] <;> rfl) | (simp [*, errW_none, errW_some] <;> rfl), by exact lB HB.out⟩

end Go.Proofs.YtjcgmjhcaaaieaaDoor.Pr
