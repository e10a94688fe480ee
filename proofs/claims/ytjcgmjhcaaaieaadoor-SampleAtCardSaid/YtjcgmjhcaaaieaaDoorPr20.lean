-- printed by a program of this session's (wip/mp.sh), out of the translation; the texts of its folder 'given' are typed by hand
-- shortened (wip/short.py)
import Derived.Test.YtjcgmjhcaaaieaaDoorPr0
import Derived.Test.YtjcgmjhcaaaieaaDoorPr3
import Derived.Test.YtjcgmjhcaaaieaaDoorPr17
import Derived.Test.YtjcgmjhcaaaieaaDoorPr19
namespace Go.Proofs.YtjcgmjhcaaaieaaDoor.Pr
open Go.RowKit Go.Proofs.YtjcgmjhcaaaieaaDoorW.PrintWords Go.Proofs.YtjcgmjhcaaaieaaDoorW.PrintLast Go.Proofs.YtjcgmjhcaaaieaaDoorW.PrintMore
attribute [local go_sem] max2_int min2_int max_two min_two max_three min_three max_four min_four   -- for this text's walks alone
attribute [local go_sem high] eqA32
set_option linter.unusedVariables false
set_option linter.unusedSimpArgs false

attribute [local go_sem high] eqA77
/-! ### wide_Shift: function 43 -/
def wide_Shift.j0 : Nat → Int → Bool → Int → Int → Option (Int × Int × Int)
 | 0, _, _, _, _ => none
 | k + 1, x1, x6, aq, ar => if x6 = true then (some (0, 0, 0)) else (if x1 < 0 then ((wide_right.f aq ar (IntKind.u64.wrap (wrap64 (-x1)))).bind fun ap => (some (ap.1, ap.2, 0))) else ((wide_Bits.f aq ar).bind fun ao => (if x1 > (wrap64 (128 - ao)) then (some (0, 0, 2)) else ((wide_left.f aq ar (IntKind.u64.wrap (x1))).bind fun an => (some (an.1, an.2, 0))))))
def wide_Shift.f (k : Nat) (ab : Int) (ac : Int) (a1 : Int) : Option (Int × Int × Int) := if (ab == 0 && (ac == 0)) = true then (wide_Shift.j0 k a1 true ab ac) else (wide_Shift.j0 k a1 (decide (a1 ≤ (-128))) ab ac)
theorem wide_Shift.mono_l : ∀ k, (∀ y0 y1 y2 y3, LeO (wide_Shift.j0 k y0 y1 y2 y3) (wide_Shift.j0 (k + 1) y0 y1 y2 y3))
 | 0 => fun _ _ _ _ r h => by simp [wide_Shift.j0] at h
 | k + 1 => by
  have ih0 := wide_Shift.mono_l k
  ·intro y0 y1 y2 y3
   unfold wide_Shift.j0
   repeat' first
   | (with_reducible exact ih0 _ _ _ _)
   | (with_reducible exact LeO.refl _)
   | (with_reducible exact LeO.none _)
   | (with_reducible refine LeO.ite ?_ ?_)
   | (with_reducible refine LeO.bind ?_ (fun _ => ?_))
   | exact ih0 _ _ _ _
   | exact LeO.none _
   | refine LeO.ite ?_ ?_
   | refine LeO.bind ?_ (fun _ => ?_)
theorem wide_Shift.mono : ∀ a0 a1 a2 k, LeO (wide_Shift.f k a0 a1 a2) (wide_Shift.f (k + 1) a0 a1 a2) := by
 intro a0 a1 a2 k
 have ih0 := wide_Shift.mono_l k
 unfold wide_Shift.f
 repeat' first
   | (with_reducible exact ih0 _ _ _ _)
   | (with_reducible exact LeO.refl _)
   | (with_reducible exact LeO.none _)
   | (with_reducible refine LeO.ite ?_ ?_)
   | (with_reducible refine LeO.bind ?_ (fun _ => ?_))
   | exact ih0 _ _ _ _
   | exact LeO.none _
   | refine LeO.ite ?_ ?_
   | refine LeO.bind ?_ (fun _ => ?_)
set_option maxHeartbeats 8000000 in
set_option maxRecDepth 100000 in
theorem wide_Shift.calls (k : Nat) (ab : Int) (ac : Int) (a1 : Int) (r1 : Int) (r2 : Int) (r3 : Int) (w : World) (h : wide_Shift.f k ab ac a1 = some (r1, r2, r3)) :
  Calls Tryd.prog 43 #[.agg #[.int .u64 ab, .int .u64 ac], .int .i64 a1] w fun e w' => e = .returned (.tuple #[.agg #[.int .u64 r1, .int .u64 r2], .int .i64 r3]) ∧ Below w.heap.size w w' := by
 have bM := Tryd.underlying77
 have HB := A_.mk (Below.refl w.heap.size w)
 have H : (if (ab == 0 && (ac == 0)) = true then (wide_Shift.j0 k a1 true ab ac) else (wide_Shift.j0 k a1 (decide (a1 ≤ (-128))) ab ac)) = some (r1, r2, r3) := h
 clear h
 have aI := A_.mk H
 clear H
 go_enter Tryd.func43, Tryd.ntmps43
 go_upto_region 1 with (first | ((with_reducible refine O_ (N := 2) rfl ?_); refine N_ ?hg (N := 2) ?hd (cs := #[.int .u64 ab, .int .u64 ac]) (t := 77) ?hr ?_; (case hd => rfl); (case hg => rfl); (case hr => first | (go_simp; done) | (go_simp; rfl)); intro ae hg w4 hbox hb; have ak := A_.mk (E_ (by exact lB HB.out) hb); have al := A_.mk (hbox); have am := A_.mk ((by rw [hg]; exact (G_ (by exact lB HB.out)) : w.heap.size ≤ ae)); have aB := A_.mk ((by rw [hg]; exact (G_ (by exact lB HB.out)) : w.heap.size ≤ ae)); clear HB; have HB := ak; have aa := al; have bB := am; have ag := aB; clear ak al am aB; clear hb hbox hg) | ((with_reducible refine O_ (N := 4) rfl ?_); refine N_ ?hg (N := 4) ?hd (cs := #[.int .u64 0, .int .u64 0]) (t := 77) ?hr ?_; (case hd => rfl); (case hg => rfl); (case hr => first | (go_simp; done) | (go_simp; rfl)); intro af hg w5 hbox hb; have ak := A_.mk (F_ (g := ae) (o := .cells #[.int .u64 ab, .int .u64 ac] 77 (0, 0)) (by refine kB ?_; exact aa.out) hb); have al := A_.mk (E_ (by exact lB HB.out) hb); have am := A_.mk (hbox); have aB := A_.mk ((by rw [hg]; exact (G_ (by exact lB HB.out)) : w.heap.size ≤ af)); have aT := A_.mk ((by rw [hg]; exact (G_ (by exact lB HB.out)) : w.heap.size ≤ af)); have aU := A_.mk ((by rw [hg]; exact Nat.ne_of_lt (M_ (g := ae) (o := .cells #[.int .u64 ab, .int .u64 ac] 77 (0, 0)) (by refine kB ?_; exact aa.out)) : ae ≠ af)); have aV := A_.mk ((by rw [hg]; exact Nat.ne_of_gt (M_ (g := ae) (o := .cells #[.int .u64 ab, .int .u64 ac] 77 (0, 0)) (by refine kB ?_; exact aa.out)) : af ≠ ae)); clear aa; clear HB; have aa := ak; have HB := al; have ad := am; have bC := aB; have aj := aT; have ah := aU; have ai := aV; clear ak al am aB aT aU aV; clear hb hbox hg))
 (try simp only [Act.put, List.setIfInBounds_toArray, List.set_cons_zero, List.set_cons_succ])
 go_cut [6] (fun v6 wc => ∃ (kq : Nat) (ay : Bool), v6 = .bool ay ∧ A_ (wide_Shift.j0 kq a1 ay ab ac = some (r1, r2, r3)) ∧ A_ (kq ≤ k) ∧ A_ (wc.heap[ae]? = some (.cells #[.int .u64 ab, .int .u64 ac] 77 (0, 0))) ∧ A_ (wc.heap[af]? = some (.cells #[.int .u64 0, .int .u64 0] 77 (0, 0))) ∧ A_ (Below w.heap.size w wc))
 case first =>
  have H := aI.out
  clear aI
  by_cases c6 : (ab == 0 && (ac == 0)) = true
  ·rw [if_pos c6] at H
   have au : (ab == 0 && (ac == 0)) = true := c6
   (try (have aJ : decide (ab = 0 && (ac == 0)) = true := by simpa using c6))
   (try (have aK : (ab == 0 && (ac == 0)) = true := by simpa using c6))
   clear c6
   (first | rw [au] | (simp only [i64_w, i32_w]; rw [au]) | skip)
   have H' := A_.mk H
   clear H
   have bN := ah.out
   have bO := ai.out
   have aL : w5.cell? ⟨ae, 0, none⟩ = some (.int .u64 ab) := (D_ aa.out 0).trans rfl
   have aM : w5.cell? ⟨ae, 1, none⟩ = some (.int .u64 ac) := (D_ aa.out 1).trans rfl
   have aN := B_ aa.out 0
   have aO := B_ aa.out 1
   go_wp2
   go_meet
   case rel => exact ⟨_, (true), (by first | rfl | (simp; done) | (simp [*]; done)), H', ⟨by first | omega | exact Nat.le_refl _⟩, ⟨by refine kB ?_; exact aa.out⟩, ⟨by refine kB ?_; exact ad.out⟩, ⟨by exact lB HB.out⟩⟩
  ·rw [if_neg c6] at H
   have au : (ab == 0 && (ac == 0)) = false := by simpa using c6
   (try (have aJ : decide (ab = 0 && (ac == 0)) = false := by simpa using c6))
   (try (have aK : (ab == 0 && (ac == 0)) = false := by simpa using c6))
   (try (have bP : ¬ (ab = 0 && (ac == 0)) := by simpa using c6))
   clear c6
   (first | rw [au] | (simp only [i64_w, i32_w]; rw [au]) | skip)
   have H' := A_.mk H
   clear H
   have bQ := ah.out
   have bR := ai.out
   have aE : w5.cell? ⟨ae, 0, none⟩ = some (.int .u64 ab) := (D_ aa.out 0).trans rfl
   have aF : w5.cell? ⟨ae, 1, none⟩ = some (.int .u64 ac) := (D_ aa.out 1).trans rfl
   have aG := B_ aa.out 0
   have aH := B_ aa.out 1
   go_wp2
   go_meet
   case rel => exact ⟨_, (decide (a1 ≤ (-128))), (by first | rfl | (simp; done) | (simp [*]; done)), H', ⟨by first | omega | exact Nat.le_refl _⟩, ⟨by refine kB ?_; exact aa.out⟩, ⟨by refine kB ?_; exact ad.out⟩, ⟨by exact lB HB.out⟩⟩
 case rest =>
  clear aI
  try clear p2
  try clear c4
  try clear c6
  try clear au
  try clear aJ
  try clear aK
  try clear c7
  try clear c9
  try clear aE
  try clear aF
  try clear aL
  try clear aM
  try clear aG
  try clear aH
  try clear aN
  try clear aO
  obtain ⟨kq, ay, rfl, HA, bS, aa, ad, HB⟩ := hcut
  cases kq with
  | zero => exact absurd HA.out (by simp [wide_Shift.j0])
  | succ bT =>
   have H := HA.out
   clear HA
   simp only [wide_Shift.j0] at H
   by_cases c11 : ay = true
   ·subst c11
    have H1 : (some (0, 0, 0)) = some (r1, r2, r3) := by rw [if_pos rfl] at H; exact H
    clear H
    have H := H1
    clear H1
    simp only [Option.some.injEq, Prod.mk.injEq] at H
    obtain ⟨rfl, rfl, rfl⟩ := H
    have bD := ai.out
    have bE := ah.out
    have a3 : wc.cell? ⟨af, 0, none⟩ = some (.int .u64 0) := (D_ ad.out 0).trans rfl
    have a4 : wc.cell? ⟨af, 1, none⟩ = some (.int .u64 0) := (D_ ad.out 1).trans rfl
    have a5 := B_ ad.out 0
    have a6 := B_ ad.out 1
    go_wp2
    refine bodyPost_ret (results_ct rfl _ _ af 77 #[.int .u64 0, .int .u64 0] (0, 0) _ rfl (by refine kB ?_; refine L_ (cs := #[.int .u64 0, .int .u64 0]) ?_ 1 _ rfl; refine kB ?_; refine L_ (cs := #[.int .u64 0, .int .u64 0]) ?_ 0 _ rfl; refine kB ?_; exact ad.out) Tryd.underlying77 rfl (by kernel_rfl)) rfl ?_
    exact ⟨by first | rfl | (simp [errW_none, errW_some] <;> rfl) | (simp [*, errW_none, errW_some] <;> rfl), by exact lB HB.out⟩
   ·replace c11 := Bool.eq_false_iff.mpr c11
    subst c11
    have H1 : (if a1 < 0 then ((wide_right.f ab ac (IntKind.u64.wrap (wrap64 (-a1)))).bind fun ap => (some (ap.1, ap.2, 0))) else ((wide_Bits.f ab ac).bind fun ao => (if a1 > (wrap64 (128 - ao)) then (some (0, 0, 2)) else ((wide_left.f ab ac (IntKind.u64.wrap (a1))).bind fun an => (some (an.1, an.2, 0)))))) = some (r1, r2, r3) := by rw [if_neg (show ¬ (false = true) by decide)] at H; exact H
    clear H
    have H := H1
    clear H1
    by_cases c14 : a1 < 0
    ·rw [if_pos c14] at H
     have aR : decide (a1 < 0) = true := decide_eq_true c14
     clear c14
     replace H := Option.bind_eq_some_iff.mp H
     obtain ⟨⟨az, aC⟩, A150, H⟩ := H
     replace H : (some (az, aC, 0)) = some (r1, r2, r3) := H
     have A15 := A_.mk A150
     clear A150
     simp only [Option.some.injEq, Prod.mk.injEq] at H
     obtain ⟨rfl, rfl, rfl⟩ := H
     have bF := ah.out
     have bG := ai.out
     have a7 : wc.cell? ⟨ae, 0, none⟩ = some (.int .u64 ab) := (D_ aa.out 0).trans rfl
     have a8 : wc.cell? ⟨ae, 1, none⟩ = some (.int .u64 ac) := (D_ aa.out 1).trans rfl
     have a9 := B_ aa.out 0
     have ba := B_ aa.out 1
     go_wp2_with (first | ((with_reducible refine P_ (f := 48) rfl ?_); refine R_ (some 22) rfl rfl Tryd.func48 (by kernel_rfl) rfl #[.agg #[.int .u64 ab, .int .u64 ac], .int .u64 (IntKind.u64.wrap (wrap64 (-a1)))] rfl (by (try simp only [List.map_toArray, List.map_cons, List.map_nil]); first | done | rfl | (simp only [List.length_drop, List.length_take]; rfl)) ?_; (with_reducible refine (wide_right.calls ab ac (IntKind.u64.wrap (wrap64 (-a1))) az aC _ A15.out).mono ?_); rintro e aW ⟨rfl, hb⟩; refine ⟨_, rfl, ?_⟩; have ak := A_.mk (F_ (g := ae) (o := .cells #[.int .u64 ab, .int .u64 ac] 77 (0, 0)) (by refine kB ?_; exact aa.out) hb); have al := A_.mk (F_ (g := af) (o := .cells #[.int .u64 0, .int .u64 0] 77 (0, 0)) (by refine kB ?_; exact ad.out) hb); have am := A_.mk (E_ (by exact lB HB.out) hb); clear aa; clear ad; clear HB; have aa := ak; have ad := al; have HB := am; clear ak al am; (try clear hb); (try clear aP); (try clear hk); (try clear hi); have bb : aW.cell? ⟨af, 0, none⟩ = some (.int .u64 0) := (D_ ad.out 0).trans rfl; have bc : aW.cell? ⟨af, 1, none⟩ = some (.int .u64 0) := (D_ ad.out 1).trans rfl; have bd := B_ ad.out 0; have be := B_ ad.out 1))
     refine bodyPost_ret (results_ct rfl _ _ af 77 #[.int .u64 az, .int .u64 aC] (0, 0) _ rfl (by refine kB ?_; refine L_ (cs := #[.int .u64 az, .int .u64 0]) ?_ 1 _ rfl; refine kB ?_; refine L_ (cs := #[.int .u64 0, .int .u64 0]) ?_ 0 _ rfl; refine kB ?_; exact ad.out) Tryd.underlying77 rfl (by kernel_rfl)) rfl ?_
     exact ⟨by first | rfl | (simp [errW_none, errW_some] <;> rfl) | (simp [*, errW_none, errW_some] <;> rfl), by exact lB HB.out⟩
    ·rw [if_neg c14] at H
     have aR : decide (a1 < 0) = false := decide_eq_false c14
     clear c14
     replace H := Option.bind_eq_some_iff.mp H
     obtain ⟨ao, A200, H⟩ := H
     replace H : (if a1 > (wrap64 (128 - ao)) then (some (0, 0, 2)) else ((wide_left.f ab ac (IntKind.u64.wrap (a1))).bind fun an => (some (an.1, an.2, 0)))) = some (r1, r2, r3) := H
     have A20 := A_.mk A200
     clear A200
     by_cases c21 : a1 > (wrap64 (128 - ao))
     ·rw [if_pos c21] at H
      have aS : decide ((wrap64 (128 - ao)) < a1) = true := decide_eq_true c21
      clear c21
      simp only [Option.some.injEq, Prod.mk.injEq] at H
      obtain ⟨rfl, rfl, rfl⟩ := H
      have bH := ah.out
      have bI := ai.out
      have bf : wc.cell? ⟨ae, 0, none⟩ = some (.int .u64 ab) := (D_ aa.out 0).trans rfl
      have bg : wc.cell? ⟨ae, 1, none⟩ = some (.int .u64 ac) := (D_ aa.out 1).trans rfl
      have bh := B_ aa.out 0
      have bi := B_ aa.out 1
      go_wp2_with (first | ((with_reducible refine P_ (f := 49) rfl ?_); refine R_ (some 26) rfl rfl Tryd.func49 (by kernel_rfl) rfl #[.agg #[.int .u64 ab, .int .u64 ac]] rfl (by (try simp only [List.map_toArray, List.map_cons, List.map_nil]); first | done | rfl | (simp only [List.length_drop, List.length_take]; rfl)) ?_; (with_reducible refine (wide_Bits.calls ab ac ao _ A20.out).mono ?_); rintro e aX ⟨rfl, hb⟩; refine ⟨_, rfl, ?_⟩; have ak := A_.mk (F_ (g := ae) (o := .cells #[.int .u64 ab, .int .u64 ac] 77 (0, 0)) (by refine kB ?_; exact aa.out) hb); have al := A_.mk (F_ (g := af) (o := .cells #[.int .u64 0, .int .u64 0] 77 (0, 0)) (by refine kB ?_; exact ad.out) hb); have am := A_.mk (E_ (by exact lB HB.out) hb); clear aa; clear ad; clear HB; have aa := ak; have ad := al; have HB := am; clear ak al am; (try clear hb); (try clear aP); (try clear hk); (try clear hi); have bj : aX.cell? ⟨af, 0, none⟩ = some (.int .u64 0) := (D_ ad.out 0).trans rfl; have bk : aX.cell? ⟨af, 1, none⟩ = some (.int .u64 0) := (D_ ad.out 1).trans rfl; have bl := B_ ad.out 0; have bm := B_ ad.out 1))
      refine bodyPost_ret (results_ct rfl _ _ af 77 #[.int .u64 0, .int .u64 0] (0, 0) _ rfl (by refine kB ?_; refine L_ (cs := #[.int .u64 0, .int .u64 0]) ?_ 1 _ rfl; refine kB ?_; refine L_ (cs := #[.int .u64 0, .int .u64 0]) ?_ 0 _ rfl; refine kB ?_; exact ad.out) Tryd.underlying77 rfl (by kernel_rfl)) rfl ?_
      exact ⟨by first | rfl | (simp [errW_none, errW_some] <;> rfl) | (simp [*, errW_none, errW_some] <;> rfl), by exact lB HB.out⟩
     ·rw [if_neg c21] at H
      have aS : decide ((wrap64 (128 - ao)) < a1) = false := decide_eq_false c21
      clear c21
      replace H := Option.bind_eq_some_iff.mp H
      obtain ⟨⟨aA, aD⟩, A260, H⟩ := H
      replace H : (some (aA, aD, 0)) = some (r1, r2, r3) := H
      have A26 := A_.mk A260
      clear A260
      simp only [Option.some.injEq, Prod.mk.injEq] at H
      obtain ⟨rfl, rfl, rfl⟩ := H
      have bJ := ah.out
      have bK := ai.out
      have bn : wc.cell? ⟨ae, 0, none⟩ = some (.int .u64 ab) := (D_ aa.out 0).trans rfl
      have bo : wc.cell? ⟨ae, 1, none⟩ = some (.int .u64 ac) := (D_ aa.out 1).trans rfl
      have bp := B_ aa.out 0
      have bq := B_ aa.out 1
      go_wp2_with (first | ((with_reducible refine P_ (f := 49) rfl ?_); refine R_ (some 26) rfl rfl Tryd.func49 (by kernel_rfl) rfl #[.agg #[.int .u64 ab, .int .u64 ac]] rfl (by (try simp only [List.map_toArray, List.map_cons, List.map_nil]); first | done | rfl | (simp only [List.length_drop, List.length_take]; rfl)) ?_; (with_reducible refine (wide_Bits.calls ab ac ao _ A20.out).mono ?_); rintro e aY ⟨rfl, hb⟩; refine ⟨_, rfl, ?_⟩; have ak := A_.mk (F_ (g := ae) (o := .cells #[.int .u64 ab, .int .u64 ac] 77 (0, 0)) (by refine kB ?_; exact aa.out) hb); have al := A_.mk (F_ (g := af) (o := .cells #[.int .u64 0, .int .u64 0] 77 (0, 0)) (by refine kB ?_; exact ad.out) hb); have am := A_.mk (E_ (by exact lB HB.out) hb); clear aa; clear ad; clear HB; have aa := ak; have ad := al; have HB := am; clear ak al am; (try clear hb); (try clear aP); (try clear hk); (try clear hi); have br : aY.cell? ⟨ae, 0, none⟩ = some (.int .u64 ab) := (D_ aa.out 0).trans rfl; have bs : aY.cell? ⟨ae, 1, none⟩ = some (.int .u64 ac) := (D_ aa.out 1).trans rfl; have bu := B_ aa.out 0; have bv := B_ aa.out 1) | ((with_reducible refine P_ (f := 50) rfl ?_); refine R_ (some 33) rfl rfl Tryd.func50 (by kernel_rfl) rfl #[.agg #[.int .u64 ab, .int .u64 ac], .int .u64 (IntKind.u64.wrap (a1))] rfl (by (try simp only [List.map_toArray, List.map_cons, List.map_nil]); first | done | rfl | (simp only [List.length_drop, List.length_take]; rfl)) ?_; (with_reducible refine (wide_left.calls ab ac (IntKind.u64.wrap (a1)) aA aD _ A26.out).mono ?_); rintro e aZ ⟨rfl, hb⟩; refine ⟨_, rfl, ?_⟩; have ak := A_.mk (F_ (g := ae) (o := .cells #[.int .u64 ab, .int .u64 ac] 77 (0, 0)) (by refine kB ?_; exact aa.out) hb); have al := A_.mk (F_ (g := af) (o := .cells #[.int .u64 0, .int .u64 0] 77 (0, 0)) (by refine kB ?_; exact ad.out) hb); have am := A_.mk (E_ (by exact lB HB.out) hb); clear aa; clear ad; clear HB; have aa := ak; have ad := al; have HB := am; clear ak al am; (try clear hb); (try clear aP); (try clear hk); (try clear hi); have bw : aZ.cell? ⟨af, 0, none⟩ = some (.int .u64 0) := (D_ ad.out 0).trans rfl; have bx : aZ.cell? ⟨af, 1, none⟩ = some (.int .u64 0) := (D_ ad.out 1).trans rfl; have bz := B_ ad.out 0; have bA := B_ ad.out 1))
      refine bodyPost_ret (results_ct rfl _ _ af 77 #[.int .u64 aA, .int .u64 aD] (0, 0) _ rfl (by refine kB ?_; refine L_ (cs := #[.int .u64 aA, .int .u64 0]) ?_ 1 _ rfl; refine kB ?_; refine L_ (cs := #[.int .u64 0, .int .u64 0]) ?_ 0 _ rfl; refine kB ?_; exact ad.out) Tryd.underlying77 rfl (by kernel_rfl)) rfl ?_
      exact ⟨by first | rfl | (simp [errW_none, errW_some] <;> rfl) | (simp [*, errW_none, errW_some] <;> rfl), by exact lB HB.out⟩

end Go.Proofs.YtjcgmjhcaaaieaaDoor.Pr
