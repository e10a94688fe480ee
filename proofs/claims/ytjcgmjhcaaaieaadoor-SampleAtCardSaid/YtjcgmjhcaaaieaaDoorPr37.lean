-- printed by a program of this session's (wip/mp.sh), out of the translation; the texts of its folder 'given' are typed by hand
-- shortened (wip/short.py)
import Derived.Test.YtjcgmjhcaaaieaaDoorPr0
import Derived.Test.YtjcgmjhcaaaieaaDoorPr34
import Derived.Test.YtjcgmjhcaaaieaaDoorPr35
import Derived.Test.YtjcgmjhcaaaieaaDoorPr36
namespace Go.Proofs.YtjcgmjhcaaaieaaDoor.Pr
open Go.RowKit Go.Proofs.YtjcgmjhcaaaieaaDoorW.PrintWords Go.Proofs.YtjcgmjhcaaaieaaDoorW.PrintLast Go.Proofs.YtjcgmjhcaaaieaaDoorW.PrintMore
attribute [local go_sem] max2_int min2_int max_two min_two max_three min_three max_four min_four   -- for this text's walks alone
attribute [local go_sem high] eqA32
set_option linter.unusedVariables false
set_option linter.unusedSimpArgs false

/-! ### pochoirref32_At: function 9 -/
mutual
def pochoirref32_At.j0 : Nat → Int → Int → Int → Bool → Int → Int → Int → Int → Int → Int → Int → Int → List (S54) → List (S84) → List ByteArray → Option (Int × Int × Int × Int × Int)
 | 0, _, _, _, _, _, _, _, _, _, _, _, _, _, _, _ => none
 | k + 1, x1, x2, x3, jI, bi, bj, bk, bl, bm, bn, bo, bp, am, bq, br => if jI = true then (some (0, 0, 0, 0, 1)) else (if 0 ≤ x1 then (if x1 < (am.length : Int) then (if ((Z_ am x1).f1.f2) = 0 then (pochoirref32_At.j1 k x2 x3 true bi bj bk bl bm bn bo bp am bq br ((Z_ am x1).f0) ((Z_ am x1).f1.f0) ((Z_ am x1).f1.f1) ((Z_ am x1).f1.f2) ((Z_ am x1).f1.f3) ((Z_ am x1).f2.f0) ((Z_ am x1).f2.f1) ((Z_ am x1).f2.f2)) else (if x2 < 0 then (pochoirref32_At.j1 k x2 x3 true bi bj bk bl bm bn bo bp am bq br ((Z_ am x1).f0) ((Z_ am x1).f1.f0) ((Z_ am x1).f1.f1) ((Z_ am x1).f1.f2) ((Z_ am x1).f1.f3) ((Z_ am x1).f2.f0) ((Z_ am x1).f2.f1) ((Z_ am x1).f2.f2)) else (if x3 < 0 then (pochoirref32_At.j1 k x2 x3 true bi bj bk bl bm bn bo bp am bq br ((Z_ am x1).f0) ((Z_ am x1).f1.f0) ((Z_ am x1).f1.f1) ((Z_ am x1).f1.f2) ((Z_ am x1).f1.f3) ((Z_ am x1).f2.f0) ((Z_ am x1).f2.f1) ((Z_ am x1).f2.f2)) else (if x2 > (wrap64 (256 * (wrap64 (((Z_ am x1).f1.f2) - 1)))) then (pochoirref32_At.j1 k x2 x3 true bi bj bk bl bm bn bo bp am bq br ((Z_ am x1).f0) ((Z_ am x1).f1.f0) ((Z_ am x1).f1.f1) ((Z_ am x1).f1.f2) ((Z_ am x1).f1.f3) ((Z_ am x1).f2.f0) ((Z_ am x1).f2.f1) ((Z_ am x1).f2.f2)) else (pochoirref32_At.j1 k x2 x3 (decide (x3 > (wrap64 (256 * (wrap64 (((Z_ am x1).f1.f3) - 1)))))) bi bj bk bl bm bn bo bp am bq br ((Z_ am x1).f0) ((Z_ am x1).f1.f0) ((Z_ am x1).f1.f1) ((Z_ am x1).f1.f2) ((Z_ am x1).f1.f3) ((Z_ am x1).f2.f0) ((Z_ am x1).f2.f1) ((Z_ am x1).f2.f2)))))) else (none)) else (none))
def pochoirref32_At.j1 : Nat → Int → Int → Bool → Int → Int → Int → Int → Int → Int → Int → Int → List (S54) → List (S84) → List ByteArray → Int → Int → Int → Int → Int → Int → Int → Int → Option (Int × Int × Int × Int × Int)
 | 0, _, _, _, _, _, _, _, _, _, _, _, _, _, _, _, _, _, _, _, _, _, _ => none
 | k + 1, x2, x3, jJ, bi, bj, bk, bl, bm, bn, bo, bp, am, bq, br, ck, cl, cm, bP, bQ, bR, bS, bT => if jJ = true then (some (0, 0, 0, 0, 7)) else ((pochoirref32_cut.f x2 bP).bind fun cx => ((pochoirref32_cut.f x3 bQ).bind fun bL => (pochoirref32_At.l0 k cx.1 cx.2 bL.1 bL.2 0 bi bj bk bl bm bn bo bp am bq br ck cl cm bP bQ bR bS bT 0 0 0 0)))
def pochoirref32_At.l0 : Nat → Int → Int → Int → Int → Int → Int → Int → Int → Int → Int → Int → Int → Int → List (S54) → List (S84) → List ByteArray → Int → Int → Int → Int → Int → Int → Int → Int → Int → Int → Int → Int → Option (Int × Int × Int × Int × Int)
 | 0, _, _, _, _, _, _, _, _, _, _, _, _, _, _, _, _, _, _, _, _, _, _, _, _, _, _, _, _ => none
 | k + 1, h9, g5, ia, g6, bE, bi, bj, bk, bl, bm, bn, bo, bp, am, bq, br, ck, cl, cm, bP, bQ, bR, bS, bT, cJ, cK, cL, cM => if bE < 4 then ((some (([wrap64 (256 - g5), g5] : List Int) : List Int)).bind fun aA => (if 0 ≤ (Int.tmod bE 2) then (if (Int.tmod bE 2) < (aA.length : Int) then ((some (([wrap64 (256 - g6), g6] : List Int) : List Int)).bind fun ap => (if 0 ≤ (wrap64 (Int.tdiv bE 2)) then (if (wrap64 (Int.tdiv bE 2)) < (ap.length : Int) then (if (wrap64 ((rd aA (Int.tmod bE 2)) * (rd ap (wrap64 (Int.tdiv bE 2))))) = 0 then (pochoirref32_At.l0 k h9 g5 ia g6 (wrap64 (bE + 1)) bi bj bk bl bm bn bo bp am bq br ck cl cm bP bQ bR bS bT cJ cK cL cM) else ((pochoirref30_Texel.f k bi bj bk bl bm bn bo bp am bq br bR (wrap64 ((wrap64 (bS + h9)) + (Int.tmod bE 2))) (wrap64 ((wrap64 (bT + ia)) + (wrap64 (Int.tdiv bE 2))))).bind fun ba => (pochoirref32_At.l0 k h9 g5 ia g6 (wrap64 (bE + 1)) bi bj bk bl bm bn bo bp am bq br ck cl cm bP bQ bR bS bT (wrap64 (cJ + (wrap64 ((wrap64 ((rd aA (Int.tmod bE 2)) * (rd ap (wrap64 (Int.tdiv bE 2))))) * (wrap64 (ba.1)))))) (wrap64 (cK + (wrap64 ((wrap64 ((rd aA (Int.tmod bE 2)) * (rd ap (wrap64 (Int.tdiv bE 2))))) * (wrap64 (ba.2.1)))))) (wrap64 (cL + (wrap64 ((wrap64 ((rd aA (Int.tmod bE 2)) * (rd ap (wrap64 (Int.tdiv bE 2))))) * (wrap64 (ba.2.2.1)))))) (wrap64 (cM + (wrap64 ((wrap64 ((rd aA (Int.tmod bE 2)) * (rd ap (wrap64 (Int.tdiv bE 2))))) * (wrap64 (ba.2.2.2.1))))))))) else (none)) else (none))) else (none)) else (none))) else (some (cJ, cK, cL, cM, 0))
end
def pochoirref32_At.f (k : Nat) (aq : Int) (ar : Int) (au : Int) (av : Int) (aw : Int) (ax : Int) (ay : Int) (az : Int) (aa : List (S54)) (an : List (S84)) (aj : List ByteArray) (a1 : Int) (a2 : Int) (a3 : Int) : Option (Int × Int × Int × Int × Int) := (pochoirref30_May.f k aq ar au av aw ax ay az aa an aj).bind fun cN => (if cN = true then (if a1 < 0 then (pochoirref32_At.j0 k a1 a2 a3 true aq ar au av aw ax ay az aa an aj) else (pochoirref32_At.j0 k a1 a2 a3 (decide (a1 ≥ (aa.length : Int))) aq ar au av aw ax ay az aa an aj)) else (pochoirref32_At.j0 k a1 a2 a3 true aq ar au av aw ax ay az aa an aj))
theorem pochoirref32_At.mono_l : ∀ k, (∀ y0 y1 y2 y3 y4 y5 y6 y7 y8 y9 ca cb cc cd ce, LeO (pochoirref32_At.j0 k y0 y1 y2 y3 y4 y5 y6 y7 y8 y9 ca cb cc cd ce) (pochoirref32_At.j0 (k + 1) y0 y1 y2 y3 y4 y5 y6 y7 y8 y9 ca cb cc cd ce)) ∧ (∀ y0 y1 y2 y3 y4 y5 y6 y7 y8 y9 ca cb cc cd ce ep eq er es et eu ev, LeO (pochoirref32_At.j1 k y0 y1 y2 y3 y4 y5 y6 y7 y8 y9 ca cb cc cd ce ep eq er es et eu ev) (pochoirref32_At.j1 (k + 1) y0 y1 y2 y3 y4 y5 y6 y7 y8 y9 ca cb cc cd ce ep eq er es et eu ev)) ∧ (∀ y0 y1 y2 y3 y4 y5 y6 y7 y8 y9 ca cb cc cd ce ep eq er es et eu ev ib ic id ie ig ih, LeO (pochoirref32_At.l0 k y0 y1 y2 y3 y4 y5 y6 y7 y8 y9 ca cb cc cd ce ep eq er es et eu ev ib ic id ie ig ih) (pochoirref32_At.l0 (k + 1) y0 y1 y2 y3 y4 y5 y6 y7 y8 y9 ca cb cc cd ce ep eq er es et eu ev ib ic id ie ig ih))
 | 0 => ⟨fun _ _ _ _ _ _ _ _ _ _ _ _ _ _ _ r h => by simp [pochoirref32_At.j0] at h, fun _ _ _ _ _ _ _ _ _ _ _ _ _ _ _ _ _ _ _ _ _ _ r h => by simp [pochoirref32_At.j1] at h, fun _ _ _ _ _ _ _ _ _ _ _ _ _ _ _ _ _ _ _ _ _ _ _ _ _ _ _ _ r h => by simp [pochoirref32_At.l0] at h⟩
 | k + 1 => by
  obtain ⟨ih0, ih1, ih2⟩ := pochoirref32_At.mono_l k
  refine ⟨?_, ?_, ?_⟩
  ·intro y0 y1 y2 y3 y4 y5 y6 y7 y8 y9 ca cb cc cd ce
   unfold pochoirref32_At.j0
   repeat' first
   | (with_reducible exact ih0 _ _ _ _ _ _ _ _ _ _ _ _ _ _ _)
   | (with_reducible exact ih1 _ _ _ _ _ _ _ _ _ _ _ _ _ _ _ _ _ _ _ _ _ _)
   | (with_reducible exact ih2 _ _ _ _ _ _ _ _ _ _ _ _ _ _ _ _ _ _ _ _ _ _ _ _ _ _ _ _)
   | (with_reducible exact pochoirref30_May.mono _ _ _ _ _ _ _ _ _ _ _ _)
   | (with_reducible exact pochoirref30_Texel.mono _ _ _ _ _ _ _ _ _ _ _ _ _ _ _)
   | (with_reducible exact LeO.refl _)
   | (with_reducible exact LeO.none _)
   | (with_reducible refine LeO.ite ?_ ?_)
   | (with_reducible refine LeO.bind ?_ (fun _ => ?_))
   | exact ih0 _ _ _ _ _ _ _ _ _ _ _ _ _ _ _
   | exact ih1 _ _ _ _ _ _ _ _ _ _ _ _ _ _ _ _ _ _ _ _ _ _
   | exact ih2 _ _ _ _ _ _ _ _ _ _ _ _ _ _ _ _ _ _ _ _ _ _ _ _ _ _ _ _
   | exact pochoirref30_May.mono _ _ _ _ _ _ _ _ _ _ _ _
   | exact pochoirref30_Texel.mono _ _ _ _ _ _ _ _ _ _ _ _ _ _ _
   | exact LeO.none _
   | refine LeO.ite ?_ ?_
   | refine LeO.bind ?_ (fun _ => ?_)
  ·intro y0 y1 y2 y3 y4 y5 y6 y7 y8 y9 ca cb cc cd ce ep eq er es et eu ev
   unfold pochoirref32_At.j1
   repeat' first
   | (with_reducible exact ih0 _ _ _ _ _ _ _ _ _ _ _ _ _ _ _)
   | (with_reducible exact ih1 _ _ _ _ _ _ _ _ _ _ _ _ _ _ _ _ _ _ _ _ _ _)
   | (with_reducible exact ih2 _ _ _ _ _ _ _ _ _ _ _ _ _ _ _ _ _ _ _ _ _ _ _ _ _ _ _ _)
   | (with_reducible exact pochoirref30_May.mono _ _ _ _ _ _ _ _ _ _ _ _)
   | (with_reducible exact pochoirref30_Texel.mono _ _ _ _ _ _ _ _ _ _ _ _ _ _ _)
   | (with_reducible exact LeO.refl _)
   | (with_reducible exact LeO.none _)
   | (with_reducible refine LeO.ite ?_ ?_)
   | (with_reducible refine LeO.bind ?_ (fun _ => ?_))
   | exact ih0 _ _ _ _ _ _ _ _ _ _ _ _ _ _ _
   | exact ih1 _ _ _ _ _ _ _ _ _ _ _ _ _ _ _ _ _ _ _ _ _ _
   | exact ih2 _ _ _ _ _ _ _ _ _ _ _ _ _ _ _ _ _ _ _ _ _ _ _ _ _ _ _ _
   | exact pochoirref30_May.mono _ _ _ _ _ _ _ _ _ _ _ _
   | exact pochoirref30_Texel.mono _ _ _ _ _ _ _ _ _ _ _ _ _ _ _
   | exact LeO.none _
   | refine LeO.ite ?_ ?_
   | refine LeO.bind ?_ (fun _ => ?_)
  ·intro y0 y1 y2 y3 y4 y5 y6 y7 y8 y9 ca cb cc cd ce ep eq er es et eu ev ib ic id ie ig ih
   unfold pochoirref32_At.l0
   repeat' first
   | (with_reducible exact ih0 _ _ _ _ _ _ _ _ _ _ _ _ _ _ _)
   | (with_reducible exact ih1 _ _ _ _ _ _ _ _ _ _ _ _ _ _ _ _ _ _ _ _ _ _)
   | (with_reducible exact ih2 _ _ _ _ _ _ _ _ _ _ _ _ _ _ _ _ _ _ _ _ _ _ _ _ _ _ _ _)
   | (with_reducible exact pochoirref30_May.mono _ _ _ _ _ _ _ _ _ _ _ _)
   | (with_reducible exact pochoirref30_Texel.mono _ _ _ _ _ _ _ _ _ _ _ _ _ _ _)
   | (with_reducible exact LeO.refl _)
   | (with_reducible exact LeO.none _)
   | (with_reducible refine LeO.ite ?_ ?_)
   | (with_reducible refine LeO.bind ?_ (fun _ => ?_))
   | exact ih0 _ _ _ _ _ _ _ _ _ _ _ _ _ _ _
   | exact ih1 _ _ _ _ _ _ _ _ _ _ _ _ _ _ _ _ _ _ _ _ _ _
   | exact ih2 _ _ _ _ _ _ _ _ _ _ _ _ _ _ _ _ _ _ _ _ _ _ _ _ _ _ _ _
   | exact pochoirref30_May.mono _ _ _ _ _ _ _ _ _ _ _ _
   | exact pochoirref30_Texel.mono _ _ _ _ _ _ _ _ _ _ _ _ _ _ _
   | exact LeO.none _
   | refine LeO.ite ?_ ?_
   | refine LeO.bind ?_ (fun _ => ?_)
theorem pochoirref32_At.mono : ∀ a0 a1 a2 a3 a4 a5 a6 a7 a8 a9 a10 a11 a12 a13 k, LeO (pochoirref32_At.f k a0 a1 a2 a3 a4 a5 a6 a7 a8 a9 a10 a11 a12 a13) (pochoirref32_At.f (k + 1) a0 a1 a2 a3 a4 a5 a6 a7 a8 a9 a10 a11 a12 a13) := by
 intro a0 a1 a2 a3 a4 a5 a6 a7 a8 a9 a10 a11 a12 a13 k
 obtain ⟨ih0, ih1, ih2⟩ := pochoirref32_At.mono_l k
 unfold pochoirref32_At.f
 repeat' first
   | (with_reducible exact ih0 _ _ _ _ _ _ _ _ _ _ _ _ _ _ _)
   | (with_reducible exact ih1 _ _ _ _ _ _ _ _ _ _ _ _ _ _ _ _ _ _ _ _ _ _)
   | (with_reducible exact ih2 _ _ _ _ _ _ _ _ _ _ _ _ _ _ _ _ _ _ _ _ _ _ _ _ _ _ _ _)
   | (with_reducible exact pochoirref30_May.mono _ _ _ _ _ _ _ _ _ _ _ _)
   | (with_reducible exact pochoirref30_Texel.mono _ _ _ _ _ _ _ _ _ _ _ _ _ _ _)
   | (with_reducible exact LeO.refl _)
   | (with_reducible exact LeO.none _)
   | (with_reducible refine LeO.ite ?_ ?_)
   | (with_reducible refine LeO.bind ?_ (fun _ => ?_))
   | exact ih0 _ _ _ _ _ _ _ _ _ _ _ _ _ _ _
   | exact ih1 _ _ _ _ _ _ _ _ _ _ _ _ _ _ _ _ _ _ _ _ _ _
   | exact ih2 _ _ _ _ _ _ _ _ _ _ _ _ _ _ _ _ _ _ _ _ _ _ _ _ _ _ _ _
   | exact pochoirref30_May.mono _ _ _ _ _ _ _ _ _ _ _ _
   | exact pochoirref30_Texel.mono _ _ _ _ _ _ _ _ _ _ _ _ _ _ _
   | exact LeO.none _
   | refine LeO.ite ?_ ?_
   | refine LeO.bind ?_ (fun _ => ?_)
def pochoirref32_At.T12 : Bool × List (List Nat × List Nat) := (true, [([], []), ([0], [0]), ([], []), ([1, 2], [1, 2]), ([], []), ([4], [4]), ([3, 5], [3, 5]), ([6], [6]), ([], []), ([8], [8]), ([], []), ([9, 10], [9, 10]), ([], []), ([12], [12]), ([11, 13], [11, 13]), ([14], [14]), ([7, 15], [7, 15]), ([16, 0, 1, 2, 3, 4, 5, 6, 7, 8, 9, 10, 11, 12, 13, 14, 15, 16], [16])])
def pochoirref32_At.B12 : List Nat := [0, 1, 0, 7, 0, 16, 63, 127, 0, 256, 0, 1792, 0, 4096, 16128, 32512, 65535, 131071]
theorem pochoirref32_At.tab12 : rtab .any (opsOf Tryd.f9 12) = pochoirref32_At.T12 := by kernel_rfl
theorem pochoirref32_At.bits12 : waitsOk pochoirref32_At.T12.2 pochoirref32_At.B12 = true := by kernel_rfl
set_option maxHeartbeats 8000000 in
set_option maxRecDepth 100000 in
theorem pochoirref32_At.calls (k : Nat) (aq : Int) (ar : Int) (au : Int) (av : Int) (aw : Int) (ax : Int) (ay : Int) (az : Int) (bz : Option Addr) (aP : Nat) (aa : List (S54)) (aQ : Option Addr) (aR : Nat) (an : List (S84)) (aK : Option Addr) (aL : Nat) (aj : List ByteArray) (a1 : Int) (a2 : Int) (a3 : Int) (r1 : Int) (r2 : Int) (r3 : Int) (r4 : Int) (r5 : Int) (w : World) (g7 : Kd.C k54 w bz aa.length aa) (g8 : aa.length ≤ aP) (g9 : Kd.C k84 w aQ an.length an) (hc : an.length ≤ aR) (gU : Kd.C Kd.string w aK aj.length aj) (gV : aj.length ≤ aL) (h : pochoirref32_At.f k aq ar au av aw ax ay az aa an aj a1 a2 a3 = some (r1, r2, r3, r4, r5)) :
  Calls Tryd.prog 9 #[.agg #[.int .i64 aq, .int .i64 ar, .int .i64 au, .int .i64 av, .int .i64 aw, .int .i64 ax, .int .i64 ay, .int .i64 az, .slice bz aa.length aP, .slice aQ an.length aR, .slice aK aj.length aL], .int .i64 a1, .int .i64 a2, .int .i64 a3] w fun e w' => e = .returned (.tuple #[.agg #[.int .i64 r1, .int .i64 r2, .int .i64 r3, .int .i64 r4], .int .i64 r5]) ∧ Below w.heap.size w w' := by
 have ld := Tryd.underlying28
 have le := Tryd.underlying32
 have lf := Tryd.underlying54
 have lg := Tryd.underlying56
 have cy := A_.mk g7
 have ek := A_.mk g8
 clear g7 g8
 have el := A_.mk g9
 have em := A_.mk hc
 clear g9 hc
 have cz := A_.mk gU
 have cA := A_.mk gV
 clear gU gV
 have HB := A_.mk (Below.refl w.heap.size w)
 have H : ((pochoirref30_May.f k aq ar au av aw ax ay az aa an aj).bind fun cN => (if cN = true then (if a1 < 0 then (pochoirref32_At.j0 k a1 a2 a3 true aq ar au av aw ax ay az aa an aj) else (pochoirref32_At.j0 k a1 a2 a3 (decide (a1 ≥ (aa.length : Int))) aq ar au av aw ax ay az aa an aj)) else (pochoirref32_At.j0 k a1 a2 a3 true aq ar au av aw ax ay az aa an aj))) = some (r1, r2, r3, r4, r5) := h
 clear h
 have ii := A_.mk H
 clear H
 go_enter Tryd.func9, Tryd.ntmps9
 go_upto_region 1 with (first | ((with_reducible refine O_ (N := 4) rfl ?_); (try (refine Q_ (by rfl) ?_; dsimp only)); refine N_ ?hg (N := 4) ?hd (cs := #[.int .i64 aq, .int .i64 ar, .int .i64 au, .int .i64 av, .int .i64 aw, .int .i64 ax, .int .i64 ay, .int .i64 az, .slice bz aa.length aP, .slice aQ an.length aR, .slice aK aj.length aL]) (t := 28) ?hr ?_; (case hd => rfl); (case hg => rfl); (case hr => first | (go_simp; done) | (go_simp; rfl)); intro ae hg w6 hbox hb; have aT := A_.mk (E_ (by exact lB HB.out) hb); have aU := A_.mk (hbox); have aV := A_.mk ((by rw [hg]; exact (G_ (by exact lB HB.out)) : w.heap.size ≤ ae)); have aZ := A_.mk ((by rw [hg]; exact (G_ (by exact lB HB.out)) : w.heap.size ≤ ae)); clear HB; have HB := aT; have ab := aU; have kb := aV; have aI := aZ; clear aT aU aV aZ; clear hb hbox hg) | ((with_reducible refine O_ (N := 8) rfl ?_); (try (refine Q_ (by rfl) ?_; dsimp only)); refine N_ ?hg (N := 8) ?hd (cs := #[.int .i64 0, .int .i64 0, .int .i64 0, .int .i64 0]) (t := 32) ?hr ?_; (case hd => rfl); (case hg => rfl); (case hr => first | (go_simp; done) | (go_simp; rfl)); intro aH hg w7 hbox hb; have aT := A_.mk (F_ (g := ae) (o := .cells #[.int .i64 aq, .int .i64 ar, .int .i64 au, .int .i64 av, .int .i64 aw, .int .i64 ax, .int .i64 ay, .int .i64 az, .slice bz aa.length aP, .slice aQ an.length aR, .slice aK aj.length aL] 28 (0, 0)) (by refine kB ?_; exact ab.out) hb); have aU := A_.mk (E_ (by exact lB HB.out) hb); have aV := A_.mk (hbox); have aZ := A_.mk ((by rw [hg]; exact (G_ (by exact lB HB.out)) : w.heap.size ≤ aH)); have bf := A_.mk ((by rw [hg]; exact (G_ (by exact lB HB.out)) : w.heap.size ≤ aH)); have bs := A_.mk ((by rw [hg]; exact Nat.ne_of_lt (M_ (g := ae) (o := .cells #[.int .i64 aq, .int .i64 ar, .int .i64 au, .int .i64 av, .int .i64 aw, .int .i64 ax, .int .i64 ay, .int .i64 az, .slice bz aa.length aP, .slice aQ an.length aR, .slice aK aj.length aL] 28 (0, 0)) (by refine kB ?_; exact ab.out)) : ae ≠ aH)); have bM := A_.mk ((by rw [hg]; exact Nat.ne_of_gt (M_ (g := ae) (o := .cells #[.int .i64 aq, .int .i64 ar, .int .i64 au, .int .i64 av, .int .i64 aw, .int .i64 ax, .int .i64 ay, .int .i64 az, .slice bz aa.length aP, .slice aQ an.length aR, .slice aK aj.length aL] 28 (0, 0)) (by refine kB ?_; exact ab.out)) : aH ≠ ae)); clear ab; clear HB; have ab := aT; have HB := aU; have ad := aV; have kc := aZ; have aJ := bf; have bu := bs; have bv := bM; clear aT aU aV aZ bf bs bM; clear hb hbox hg))
 (try simp only [Act.put, List.setIfInBounds_toArray, List.set_cons_zero, List.set_cons_succ])
 go_cut [33] (fun v33 wc => ∃ (kq : Nat) (en : Bool), v33 = .bool en ∧ A_ (pochoirref32_At.j0 kq a1 a2 a3 en aq ar au av aw ax ay az aa an aj = some (r1, r2, r3, r4, r5)) ∧ A_ (kq ≤ k) ∧ A_ (wc.heap[ae]? = some (.cells #[.int .i64 aq, .int .i64 ar, .int .i64 au, .int .i64 av, .int .i64 aw, .int .i64 ax, .int .i64 ay, .int .i64 az, (.slice bz aa.length aP), (.slice aQ an.length aR), (.slice aK aj.length aL)] 28 (0, 0))) ∧ A_ (wc.heap[aH]? = some (.cells #[.int .i64 0, .int .i64 0, .int .i64 0, .int .i64 0] 32 (0, 0))) ∧ A_ (Below w.heap.size w wc))
 case first =>
  have H := ii.out
  clear ii
  replace H := Option.bind_eq_some_iff.mp H
  obtain ⟨cN, A80, H⟩ := H
  replace H : (if cN = true then (if a1 < 0 then (pochoirref32_At.j0 k a1 a2 a3 true aq ar au av aw ax ay az aa an aj) else (pochoirref32_At.j0 k a1 a2 a3 (decide (a1 ≥ (aa.length : Int))) aq ar au av aw ax ay az aa an aj)) else (pochoirref32_At.j0 k a1 a2 a3 true aq ar au av aw ax ay az aa an aj)) = some (r1, r2, r3, r4, r5) := H
  have A8 := A_.mk A80
  clear A80
  by_cases c9 : cN = true
  ·subst c9
   have H1 : (if a1 < 0 then (pochoirref32_At.j0 k a1 a2 a3 true aq ar au av aw ax ay az aa an aj) else (pochoirref32_At.j0 k a1 a2 a3 (decide (a1 ≥ (aa.length : Int))) aq ar au av aw ax ay az aa an aj)) = some (r1, r2, r3, r4, r5) := by rw [if_pos rfl] at H; exact H
   clear H
   have H := H1
   clear H1
   by_cases c10 : a1 < 0
   ·rw [if_pos c10] at H
    have bN : decide (a1 < 0) = true := decide_eq_true c10
    clear c10
    (first | rw [bN] | (simp only [i64_w, i32_w]; rw [bN]) | skip)
    have H' := A_.mk H
    clear H
    have kd := bu.out
    have ke := bv.out
    have cO : w7.cell? ⟨ae, 0, none⟩ = some (.int .i64 aq) := (D_ ab.out 0).trans rfl
    have cP : w7.cell? ⟨ae, 1, none⟩ = some (.int .i64 ar) := (D_ ab.out 1).trans rfl
    have cQ : w7.cell? ⟨ae, 2, none⟩ = some (.int .i64 au) := (D_ ab.out 2).trans rfl
    have cR : w7.cell? ⟨ae, 3, none⟩ = some (.int .i64 av) := (D_ ab.out 3).trans rfl
    have cS : w7.cell? ⟨ae, 4, none⟩ = some (.int .i64 aw) := (D_ ab.out 4).trans rfl
    have cT : w7.cell? ⟨ae, 5, none⟩ = some (.int .i64 ax) := (D_ ab.out 5).trans rfl
    have cU : w7.cell? ⟨ae, 6, none⟩ = some (.int .i64 ay) := (D_ ab.out 6).trans rfl
    have cV : w7.cell? ⟨ae, 7, none⟩ = some (.int .i64 az) := (D_ ab.out 7).trans rfl
    have cW : w7.cell? ⟨ae, 8, none⟩ = some (.slice bz aa.length aP) := (D_ ab.out 8).trans rfl
    have cX : w7.cell? ⟨ae, 9, none⟩ = some (.slice aQ an.length aR) := (D_ ab.out 9).trans rfl
    have cn : w7.cell? ⟨ae, 10, none⟩ = some (.slice aK aj.length aL) := (D_ ab.out 10).trans rfl
    have cY := B_ ab.out 0
    have cZ := B_ ab.out 1
    have c0 := B_ ab.out 2
    have c7 := B_ ab.out 3
    have c8 := B_ ab.out 4
    have da := B_ ab.out 5
    have db := B_ ab.out 6
    have dc := B_ ab.out 7
    have dd := B_ ab.out 8
    have de := B_ ab.out 9
    have co := B_ ab.out 10
    go_wp2_with (first | ((with_reducible refine P_ (f := 14) rfl ?_); refine R_ (some 21) rfl rfl Tryd.func14 (by kernel_rfl) rfl #[.agg #[.int .i64 aq, .int .i64 ar, .int .i64 au, .int .i64 av, .int .i64 aw, .int .i64 ax, .int .i64 ay, .int .i64 az, .slice bz aa.length aP, .slice aQ an.length aR, .slice aK aj.length aL]] rfl (by (try simp only [List.map_toArray, List.map_cons, List.map_nil]); first | done | rfl | (simp only [List.length_drop, List.length_take]; rfl)) ?_; (with_reducible refine (pochoirref30_May.calls k aq ar au av aw ax ay az _ _ aa _ _ an _ _ aj true _ ?side1 ?side2 ?side3 ?side4 ?side5 ?side6 A8.out).mono ?_); (case side1 => repeat (first | exact (Kd.C_below cy.out HB.out) | (with_reducible refine Kd.C_alloc ?_ _) | (with_reducible refine Kd.C_drewN ?_ _) | (with_reducible refine Kd.C_drew ?_))); (case side2 => exact ek.out); (case side3 => repeat (first | exact (Kd.C_below el.out HB.out) | (with_reducible refine Kd.C_alloc ?_ _) | (with_reducible refine Kd.C_drewN ?_ _) | (with_reducible refine Kd.C_drew ?_))); (case side4 => exact em.out); (case side5 => repeat (first | exact (Kd.C_below cz.out HB.out) | (with_reducible refine Kd.C_alloc ?_ _) | (with_reducible refine Kd.C_drewN ?_ _) | (with_reducible refine Kd.C_drew ?_))); (case side6 => exact cA.out); rintro e lm ⟨rfl, hb⟩; refine ⟨_, rfl, ?_⟩; have aT := A_.mk (F_ (g := ae) (o := .cells #[.int .i64 aq, .int .i64 ar, .int .i64 au, .int .i64 av, .int .i64 aw, .int .i64 ax, .int .i64 ay, .int .i64 az, .slice bz aa.length aP, .slice aQ an.length aR, .slice aK aj.length aL] 28 (0, 0)) (by refine kB ?_; exact ab.out) hb); have aU := A_.mk (F_ (g := aH) (o := .cells #[.int .i64 0, .int .i64 0, .int .i64 0, .int .i64 0] 32 (0, 0)) (by refine kB ?_; exact ad.out) hb); have aV := A_.mk (E_ (by exact lB HB.out) hb); clear ab; clear ad; clear HB; have ab := aT; have ad := aU; have HB := aV; clear aT aU aV; (try clear hb); (try clear gW); (try clear hk); (try clear hi)))
    go_meet
    case rel => exact ⟨_, (true), (by first | rfl | (simp; done) | (simp [*]; done)), H', ⟨by first | omega | exact Nat.le_refl _⟩, ⟨by refine kB ?_; exact ab.out⟩, ⟨by refine kB ?_; exact ad.out⟩, ⟨by exact lB HB.out⟩⟩
   ·rw [if_neg c10] at H
    have bN : decide (a1 < 0) = false := decide_eq_false c10
    clear c10
    (first | rw [bN] | (simp only [i64_w, i32_w]; rw [bN]) | skip)
    have H' := A_.mk H
    clear H
    have kf := bu.out
    have kg := bv.out
    have df : w7.cell? ⟨ae, 0, none⟩ = some (.int .i64 aq) := (D_ ab.out 0).trans rfl
    have dg : w7.cell? ⟨ae, 1, none⟩ = some (.int .i64 ar) := (D_ ab.out 1).trans rfl
    have dh : w7.cell? ⟨ae, 2, none⟩ = some (.int .i64 au) := (D_ ab.out 2).trans rfl
    have di : w7.cell? ⟨ae, 3, none⟩ = some (.int .i64 av) := (D_ ab.out 3).trans rfl
    have dj : w7.cell? ⟨ae, 4, none⟩ = some (.int .i64 aw) := (D_ ab.out 4).trans rfl
    have dk : w7.cell? ⟨ae, 5, none⟩ = some (.int .i64 ax) := (D_ ab.out 5).trans rfl
    have dl : w7.cell? ⟨ae, 6, none⟩ = some (.int .i64 ay) := (D_ ab.out 6).trans rfl
    have dm : w7.cell? ⟨ae, 7, none⟩ = some (.int .i64 az) := (D_ ab.out 7).trans rfl
    have dn : w7.cell? ⟨ae, 8, none⟩ = some (.slice bz aa.length aP) := (D_ ab.out 8).trans rfl
    have dp : w7.cell? ⟨ae, 9, none⟩ = some (.slice aQ an.length aR) := (D_ ab.out 9).trans rfl
    have cp : w7.cell? ⟨ae, 10, none⟩ = some (.slice aK aj.length aL) := (D_ ab.out 10).trans rfl
    have dq := B_ ab.out 0
    have dr := B_ ab.out 1
    have dt := B_ ab.out 2
    have du := B_ ab.out 3
    have dv := B_ ab.out 4
    have dw := B_ ab.out 5
    have dx := B_ ab.out 6
    have dy := B_ ab.out 7
    have dz := B_ ab.out 8
    have dA := B_ ab.out 9
    have cq := B_ ab.out 10
    go_wp2_with (first | ((with_reducible refine P_ (f := 14) rfl ?_); refine R_ (some 21) rfl rfl Tryd.func14 (by kernel_rfl) rfl #[.agg #[.int .i64 aq, .int .i64 ar, .int .i64 au, .int .i64 av, .int .i64 aw, .int .i64 ax, .int .i64 ay, .int .i64 az, .slice bz aa.length aP, .slice aQ an.length aR, .slice aK aj.length aL]] rfl (by (try simp only [List.map_toArray, List.map_cons, List.map_nil]); first | done | rfl | (simp only [List.length_drop, List.length_take]; rfl)) ?_; (with_reducible refine (pochoirref30_May.calls k aq ar au av aw ax ay az _ _ aa _ _ an _ _ aj true _ ?side1 ?side2 ?side3 ?side4 ?side5 ?side6 A8.out).mono ?_); (case side1 => repeat (first | exact (Kd.C_below cy.out HB.out) | (with_reducible refine Kd.C_alloc ?_ _) | (with_reducible refine Kd.C_drewN ?_ _) | (with_reducible refine Kd.C_drew ?_))); (case side2 => exact ek.out); (case side3 => repeat (first | exact (Kd.C_below el.out HB.out) | (with_reducible refine Kd.C_alloc ?_ _) | (with_reducible refine Kd.C_drewN ?_ _) | (with_reducible refine Kd.C_drew ?_))); (case side4 => exact em.out); (case side5 => repeat (first | exact (Kd.C_below cz.out HB.out) | (with_reducible refine Kd.C_alloc ?_ _) | (with_reducible refine Kd.C_drewN ?_ _) | (with_reducible refine Kd.C_drew ?_))); (case side6 => exact cA.out); rintro e cf ⟨rfl, hb⟩; refine ⟨_, rfl, ?_⟩; have aT := A_.mk (F_ (g := ae) (o := .cells #[.int .i64 aq, .int .i64 ar, .int .i64 au, .int .i64 av, .int .i64 aw, .int .i64 ax, .int .i64 ay, .int .i64 az, .slice bz aa.length aP, .slice aQ an.length aR, .slice aK aj.length aL] 28 (0, 0)) (by refine kB ?_; exact ab.out) hb); have aU := A_.mk (F_ (g := aH) (o := .cells #[.int .i64 0, .int .i64 0, .int .i64 0, .int .i64 0] 32 (0, 0)) (by refine kB ?_; exact ad.out) hb); have aV := A_.mk (E_ (by exact lB HB.out) hb); clear ab; clear ad; clear HB; have ab := aT; have ad := aU; have HB := aV; clear aT aU aV; (try clear hb); (try clear gW); (try clear hk); (try clear hi); have dB : cf.cell? ⟨ae, 0, none⟩ = some (.int .i64 aq) := (D_ ab.out 0).trans rfl; have dC : cf.cell? ⟨ae, 1, none⟩ = some (.int .i64 ar) := (D_ ab.out 1).trans rfl; have dD : cf.cell? ⟨ae, 2, none⟩ = some (.int .i64 au) := (D_ ab.out 2).trans rfl; have dE : cf.cell? ⟨ae, 3, none⟩ = some (.int .i64 av) := (D_ ab.out 3).trans rfl; have dF : cf.cell? ⟨ae, 4, none⟩ = some (.int .i64 aw) := (D_ ab.out 4).trans rfl; have dG : cf.cell? ⟨ae, 5, none⟩ = some (.int .i64 ax) := (D_ ab.out 5).trans rfl; have dH : cf.cell? ⟨ae, 6, none⟩ = some (.int .i64 ay) := (D_ ab.out 6).trans rfl; have dI : cf.cell? ⟨ae, 7, none⟩ = some (.int .i64 az) := (D_ ab.out 7).trans rfl; have dJ : cf.cell? ⟨ae, 8, none⟩ = some (.slice bz aa.length aP) := (D_ ab.out 8).trans rfl; have dK : cf.cell? ⟨ae, 9, none⟩ = some (.slice aQ an.length aR) := (D_ ab.out 9).trans rfl; have cr : cf.cell? ⟨ae, 10, none⟩ = some (.slice aK aj.length aL) := (D_ ab.out 10).trans rfl; have dL := B_ ab.out 0; have dM := B_ ab.out 1; have dN := B_ ab.out 2; have dO := B_ ab.out 3; have dP := B_ ab.out 4; have dQ := B_ ab.out 5; have dR := B_ ab.out 6; have dS := B_ ab.out 7; have dT := B_ ab.out 8; have dU := B_ ab.out 9; have ct := B_ ab.out 10))
    go_meet
    case rel => exact ⟨_, (decide (a1 ≥ (aa.length : Int))), (by first | rfl | (simp; done) | (simp [*]; done)), H', ⟨by first | omega | exact Nat.le_refl _⟩, ⟨by refine kB ?_; exact ab.out⟩, ⟨by refine kB ?_; exact ad.out⟩, ⟨by exact lB HB.out⟩⟩
  ·replace c9 := Bool.eq_false_iff.mpr c9
   subst c9
   have H1 : (pochoirref32_At.j0 k a1 a2 a3 true aq ar au av aw ax ay az aa an aj) = some (r1, r2, r3, r4, r5) := by rw [if_neg (show ¬ (false = true) by decide)] at H; exact H
   clear H
   have H := H1
   clear H1
   have H' := A_.mk H
   clear H
   have kh := bu.out
   have ki := bv.out
   have dV : w7.cell? ⟨ae, 0, none⟩ = some (.int .i64 aq) := (D_ ab.out 0).trans rfl
   have dW : w7.cell? ⟨ae, 1, none⟩ = some (.int .i64 ar) := (D_ ab.out 1).trans rfl
   have dX : w7.cell? ⟨ae, 2, none⟩ = some (.int .i64 au) := (D_ ab.out 2).trans rfl
   have dY : w7.cell? ⟨ae, 3, none⟩ = some (.int .i64 av) := (D_ ab.out 3).trans rfl
   have dZ : w7.cell? ⟨ae, 4, none⟩ = some (.int .i64 aw) := (D_ ab.out 4).trans rfl
   have d0 : w7.cell? ⟨ae, 5, none⟩ = some (.int .i64 ax) := (D_ ab.out 5).trans rfl
   have d1 : w7.cell? ⟨ae, 6, none⟩ = some (.int .i64 ay) := (D_ ab.out 6).trans rfl
   have d2 : w7.cell? ⟨ae, 7, none⟩ = some (.int .i64 az) := (D_ ab.out 7).trans rfl
   have d3 : w7.cell? ⟨ae, 8, none⟩ = some (.slice bz aa.length aP) := (D_ ab.out 8).trans rfl
   have d4 : w7.cell? ⟨ae, 9, none⟩ = some (.slice aQ an.length aR) := (D_ ab.out 9).trans rfl
   have cu : w7.cell? ⟨ae, 10, none⟩ = some (.slice aK aj.length aL) := (D_ ab.out 10).trans rfl
   have d5 := B_ ab.out 0
   have d6 := B_ ab.out 1
   have d7 := B_ ab.out 2
   have d8 := B_ ab.out 3
   have d9 := B_ ab.out 4
   have ea := B_ ab.out 5
   have eb := B_ ab.out 6
   have ec := B_ ab.out 7
   have ed := B_ ab.out 8
   have ee := B_ ab.out 9
   have cv := B_ ab.out 10
   go_wp2_with (first | ((with_reducible refine P_ (f := 14) rfl ?_); refine R_ (some 21) rfl rfl Tryd.func14 (by kernel_rfl) rfl #[.agg #[.int .i64 aq, .int .i64 ar, .int .i64 au, .int .i64 av, .int .i64 aw, .int .i64 ax, .int .i64 ay, .int .i64 az, .slice bz aa.length aP, .slice aQ an.length aR, .slice aK aj.length aL]] rfl (by (try simp only [List.map_toArray, List.map_cons, List.map_nil]); first | done | rfl | (simp only [List.length_drop, List.length_take]; rfl)) ?_; (with_reducible refine (pochoirref30_May.calls k aq ar au av aw ax ay az _ _ aa _ _ an _ _ aj false _ ?side1 ?side2 ?side3 ?side4 ?side5 ?side6 A8.out).mono ?_); (case side1 => repeat (first | exact (Kd.C_below cy.out HB.out) | (with_reducible refine Kd.C_alloc ?_ _) | (with_reducible refine Kd.C_drewN ?_ _) | (with_reducible refine Kd.C_drew ?_))); (case side2 => exact ek.out); (case side3 => repeat (first | exact (Kd.C_below el.out HB.out) | (with_reducible refine Kd.C_alloc ?_ _) | (with_reducible refine Kd.C_drewN ?_ _) | (with_reducible refine Kd.C_drew ?_))); (case side4 => exact em.out); (case side5 => repeat (first | exact (Kd.C_below cz.out HB.out) | (with_reducible refine Kd.C_alloc ?_ _) | (with_reducible refine Kd.C_drewN ?_ _) | (with_reducible refine Kd.C_drew ?_))); (case side6 => exact cA.out); rintro e ln ⟨rfl, hb⟩; refine ⟨_, rfl, ?_⟩; have aT := A_.mk (F_ (g := ae) (o := .cells #[.int .i64 aq, .int .i64 ar, .int .i64 au, .int .i64 av, .int .i64 aw, .int .i64 ax, .int .i64 ay, .int .i64 az, .slice bz aa.length aP, .slice aQ an.length aR, .slice aK aj.length aL] 28 (0, 0)) (by refine kB ?_; exact ab.out) hb); have aU := A_.mk (F_ (g := aH) (o := .cells #[.int .i64 0, .int .i64 0, .int .i64 0, .int .i64 0] 32 (0, 0)) (by refine kB ?_; exact ad.out) hb); have aV := A_.mk (E_ (by exact lB HB.out) hb); clear ab; clear ad; clear HB; have ab := aT; have ad := aU; have HB := aV; clear aT aU aV; (try clear hb); (try clear gW); (try clear hk); (try clear hi)))
   go_meet
   case rel => exact ⟨_, (true), (by first | rfl | (simp; done) | (simp [*]; done)), H', ⟨by first | omega | exact Nat.le_refl _⟩, ⟨by refine kB ?_; exact ab.out⟩, ⟨by refine kB ?_; exact ad.out⟩, ⟨by exact lB HB.out⟩⟩
 case rest =>
  clear ii
  try clear c1
  try clear p2
  try clear c9
  try clear c10
  try clear bN
  try clear c11
  try clear c14
  try clear c18
  try clear cO
  try clear cP
  try clear cn
  try clear cQ
  try clear cR
  try clear cS
  try clear cT
  try clear cU
  try clear cV
  try clear cW
  try clear cX
  try clear df
  try clear dg
  try clear cp
  try clear dh
  try clear di
  try clear dj
  try clear dk
  try clear dl
  try clear dm
  try clear dn
  try clear dp
  try clear dB
  try clear dC
  try clear cr
  try clear dD
  try clear dE
  try clear dF
  try clear dG
  try clear dH
  try clear dI
  try clear dJ
  try clear dK
  try clear dV
  try clear dW
  try clear cu
  try clear dX
  try clear dY
  try clear dZ
  try clear d0
  try clear d1
  try clear d2
  try clear d3
  try clear d4
  try clear cY
  try clear cZ
  try clear co
  try clear c0
  try clear c7
  try clear c8
  try clear da
  try clear db
  try clear dc
  try clear dd
  try clear de
  try clear dq
  try clear dr
  try clear cq
  try clear dt
  try clear du
  try clear dv
  try clear dw
  try clear dx
  try clear dy
  try clear dz
  try clear dA
  try clear dL
  try clear dM
  try clear ct
  try clear dN
  try clear dO
  try clear dP
  try clear dQ
  try clear dR
  try clear dS
  try clear dT
  try clear dU
  try clear d5
  try clear d6
  try clear cv
  try clear d7
  try clear d8
  try clear d9
  try clear ea
  try clear eb
  try clear ec
  try clear ed
  try clear ee
  obtain ⟨kq, en, rfl, HA, cB, ab, ad, HB⟩ := hcut
  cases kq with
  | zero => exact absurd HA.out (by simp [pochoirref32_At.j0])
  | succ eH =>
   have H := HA.out
   clear HA
   simp only [pochoirref32_At.j0] at H
   by_cases c21 : en = true
   ·subst c21
    have H1 : (some (0, 0, 0, 0, 1)) = some (r1, r2, r3, r4, r5) := by rw [if_pos rfl] at H; exact H
    clear H
    have H := H1
    clear H1
    simp only [Option.some.injEq, Prod.mk.injEq] at H
    obtain ⟨rfl, rfl, rfl, rfl, rfl⟩ := H
    have kj := bv.out
    have kk := bu.out
    have eI : wc.cell? ⟨aH, 0, none⟩ = some (.int .i64 0) := (D_ ad.out 0).trans rfl
    have eJ : wc.cell? ⟨aH, 1, none⟩ = some (.int .i64 0) := (D_ ad.out 1).trans rfl
    have eK : wc.cell? ⟨aH, 2, none⟩ = some (.int .i64 0) := (D_ ad.out 2).trans rfl
    have eL : wc.cell? ⟨aH, 3, none⟩ = some (.int .i64 0) := (D_ ad.out 3).trans rfl
    have eM := B_ ad.out 0
    have eN := B_ ad.out 1
    have eO := B_ ad.out 2
    have eP := B_ ad.out 3
    go_wp2
    refine bodyPost_ret (results_ct rfl _ _ aH 32 #[.int .i64 0, .int .i64 0, .int .i64 0, .int .i64 0] (0, 0) _ rfl (by refine kB ?_; refine L_ (cs := #[.int .i64 0, .int .i64 0, .int .i64 0, .int .i64 0]) ?_ 3 _ rfl; refine kB ?_; refine L_ (cs := #[.int .i64 0, .int .i64 0, .int .i64 0, .int .i64 0]) ?_ 2 _ rfl; refine kB ?_; refine L_ (cs := #[.int .i64 0, .int .i64 0, .int .i64 0, .int .i64 0]) ?_ 1 _ rfl; refine kB ?_; refine L_ (cs := #[.int .i64 0, .int .i64 0, .int .i64 0, .int .i64 0]) ?_ 0 _ rfl; refine kB ?_; exact ad.out) Tryd.underlying32 rfl (by kernel_rfl)) rfl ?_
    exact ⟨by first | rfl | (simp [errW_none, errW_some] <;> rfl) | (simp [*, errW_none, errW_some] <;> rfl), by exact lB HB.out⟩
   ·replace c21 := Bool.eq_false_iff.mpr c21
    subst c21
    have H1 : (if 0 ≤ a1 then (if a1 < (aa.length : Int) then (if ((Z_ aa a1).f1.f2) = 0 then (pochoirref32_At.j1 eH a2 a3 true aq ar au av aw ax ay az aa an aj ((Z_ aa a1).f0) ((Z_ aa a1).f1.f0) ((Z_ aa a1).f1.f1) ((Z_ aa a1).f1.f2) ((Z_ aa a1).f1.f3) ((Z_ aa a1).f2.f0) ((Z_ aa a1).f2.f1) ((Z_ aa a1).f2.f2)) else (if a2 < 0 then (pochoirref32_At.j1 eH a2 a3 true aq ar au av aw ax ay az aa an aj ((Z_ aa a1).f0) ((Z_ aa a1).f1.f0) ((Z_ aa a1).f1.f1) ((Z_ aa a1).f1.f2) ((Z_ aa a1).f1.f3) ((Z_ aa a1).f2.f0) ((Z_ aa a1).f2.f1) ((Z_ aa a1).f2.f2)) else (if a3 < 0 then (pochoirref32_At.j1 eH a2 a3 true aq ar au av aw ax ay az aa an aj ((Z_ aa a1).f0) ((Z_ aa a1).f1.f0) ((Z_ aa a1).f1.f1) ((Z_ aa a1).f1.f2) ((Z_ aa a1).f1.f3) ((Z_ aa a1).f2.f0) ((Z_ aa a1).f2.f1) ((Z_ aa a1).f2.f2)) else (if a2 > (wrap64 (256 * (wrap64 (((Z_ aa a1).f1.f2) - 1)))) then (pochoirref32_At.j1 eH a2 a3 true aq ar au av aw ax ay az aa an aj ((Z_ aa a1).f0) ((Z_ aa a1).f1.f0) ((Z_ aa a1).f1.f1) ((Z_ aa a1).f1.f2) ((Z_ aa a1).f1.f3) ((Z_ aa a1).f2.f0) ((Z_ aa a1).f2.f1) ((Z_ aa a1).f2.f2)) else (pochoirref32_At.j1 eH a2 a3 (decide (a3 > (wrap64 (256 * (wrap64 (((Z_ aa a1).f1.f3) - 1)))))) aq ar au av aw ax ay az aa an aj ((Z_ aa a1).f0) ((Z_ aa a1).f1.f0) ((Z_ aa a1).f1.f1) ((Z_ aa a1).f1.f2) ((Z_ aa a1).f1.f3) ((Z_ aa a1).f2.f0) ((Z_ aa a1).f2.f1) ((Z_ aa a1).f2.f2)))))) else (none)) else (none)) = some (r1, r2, r3, r4, r5) := by rw [if_neg (show ¬ (false = true) by decide)] at H; exact H
    clear H
    have H := H1
    clear H1
    by_cases c24 : 0 ≤ a1
    ·rw [if_pos c24] at H
     have he : decide (0 ≤ a1) = true := decide_eq_true c24
     clear c24
     by_cases c25 : a1 < (aa.length : Int)
     ·rw [if_pos c25] at H
      have hf : decide (a1 < (aa.length : Int)) = true := decide_eq_true c25
      clear c25
      have g1 := A_.mk H
      clear H
      have kl := bu.out
      have km := bv.out
      have eQ : wc.cell? ⟨ae, 0, none⟩ = some (.int .i64 aq) := (D_ ab.out 0).trans rfl
      have eR : wc.cell? ⟨ae, 1, none⟩ = some (.int .i64 ar) := (D_ ab.out 1).trans rfl
      have eS : wc.cell? ⟨ae, 2, none⟩ = some (.int .i64 au) := (D_ ab.out 2).trans rfl
      have eT : wc.cell? ⟨ae, 3, none⟩ = some (.int .i64 av) := (D_ ab.out 3).trans rfl
      have eU : wc.cell? ⟨ae, 4, none⟩ = some (.int .i64 aw) := (D_ ab.out 4).trans rfl
      have eV : wc.cell? ⟨ae, 5, none⟩ = some (.int .i64 ax) := (D_ ab.out 5).trans rfl
      have eW : wc.cell? ⟨ae, 6, none⟩ = some (.int .i64 ay) := (D_ ab.out 6).trans rfl
      have eX : wc.cell? ⟨ae, 7, none⟩ = some (.int .i64 az) := (D_ ab.out 7).trans rfl
      have eY : wc.cell? ⟨ae, 8, none⟩ = some (.slice bz aa.length aP) := (D_ ab.out 8).trans rfl
      have eZ : wc.cell? ⟨ae, 9, none⟩ = some (.slice aQ an.length aR) := (D_ ab.out 9).trans rfl
      have ew : wc.cell? ⟨ae, 10, none⟩ = some (.slice aK aj.length aL) := (D_ ab.out 10).trans rfl
      have e0 := B_ ab.out 0
      have e1 := B_ ab.out 1
      have e2 := B_ ab.out 2
      have e3 := B_ ab.out 3
      have e4 := B_ ab.out 4
      have e5 := B_ ab.out 5
      have e6 := B_ ab.out 6
      have e7 := B_ ab.out 7
      have e8 := B_ ab.out 8
      have e9 := B_ ab.out 9
      have ex := B_ ab.out 10
      have p285 : 0 ≤ (a1 : Int) := of_decide_eq_true (by first | (with_reducible assumption) | assumption)
      have q285 : a1 < (aa.length : Int) := of_decide_eq_true (by first | (with_reducible assumption) | assumption)
      obtain ⟨ad285, e285, bZ, b0, b1, b2, b3, b4, b5, b6⟩ := at_T54 cy.out a1 p285 q285
      cases e285
      replace bZ := (HB.out.cell (World.block_lt_of_cell? w _ bZ)).trans bZ
      replace b0 := (HB.out.cell (World.block_lt_of_cell? w _ b0)).trans b0
      replace b1 := (HB.out.cell (World.block_lt_of_cell? w _ b1)).trans b1
      replace b2 := (HB.out.cell (World.block_lt_of_cell? w _ b2)).trans b2
      replace b3 := (HB.out.cell (World.block_lt_of_cell? w _ b3)).trans b3
      replace b4 := (HB.out.cell (World.block_lt_of_cell? w _ b4)).trans b4
      replace b5 := (HB.out.cell (World.block_lt_of_cell? w _ b5)).trans b5
      replace b6 := (HB.out.cell (World.block_lt_of_cell? w _ b6)).trans b6
      replace p285 := eq_true p285
      replace q285 := eq_true q285
      go_upto_region 4 with (first | ((with_reducible refine O_ (N := 10) rfl ?_); (try (refine Q_ (by rfl) ?_; dsimp only)); refine N_ ?hg (N := 10) ?hd (cs := #[.int .i64 0, .int .i64 0, .int .i64 0, .int .i64 0, .int .i64 0, .int .i64 0, .int .i64 0, .int .i64 0]) (t := 54) ?hr ?_; (case hd => rfl); (case hg => rfl); (case hr => first | (go_simp; done) | (go_simp; rfl)); intro af hg aW hbox hb; have aT := A_.mk (F_ (g := ae) (o := .cells #[.int .i64 aq, .int .i64 ar, .int .i64 au, .int .i64 av, .int .i64 aw, .int .i64 ax, .int .i64 ay, .int .i64 az, .slice (some ad285) aa.length aP, .slice aQ an.length aR, .slice aK aj.length aL] 28 (0, 0)) (by refine kB ?_; exact ab.out) hb); have aU := A_.mk (F_ (g := aH) (o := .cells #[.int .i64 0, .int .i64 0, .int .i64 0, .int .i64 0] 32 (0, 0)) (by refine kB ?_; exact ad.out) hb); have aV := A_.mk (E_ (by exact lB HB.out) hb); have aZ := A_.mk (hbox); have bf := A_.mk ((by rw [hg]; exact (G_ (by exact lB HB.out)) : w.heap.size ≤ af)); have bs := A_.mk ((by rw [hg]; exact (G_ (by exact lB HB.out)) : w.heap.size ≤ af)); have bM := A_.mk ((by rw [hg]; exact Nat.ne_of_lt (M_ (g := ae) (o := .cells #[.int .i64 aq, .int .i64 ar, .int .i64 au, .int .i64 av, .int .i64 aw, .int .i64 ax, .int .i64 ay, .int .i64 az, .slice (some ad285) aa.length aP, .slice aQ an.length aR, .slice aK aj.length aL] 28 (0, 0)) (by refine kB ?_; exact ab.out)) : ae ≠ af)); have eg := A_.mk ((by rw [hg]; exact Nat.ne_of_gt (M_ (g := ae) (o := .cells #[.int .i64 aq, .int .i64 ar, .int .i64 au, .int .i64 av, .int .i64 aw, .int .i64 ax, .int .i64 ay, .int .i64 az, .slice (some ad285) aa.length aP, .slice aQ an.length aR, .slice aK aj.length aL] 28 (0, 0)) (by refine kB ?_; exact ab.out)) : af ≠ ae)); have eh := A_.mk ((by rw [hg]; exact Nat.ne_of_lt (M_ (g := aH) (o := .cells #[.int .i64 0, .int .i64 0, .int .i64 0, .int .i64 0] 32 (0, 0)) (by refine kB ?_; exact ad.out)) : aH ≠ af)); have ei := A_.mk ((by rw [hg]; exact Nat.ne_of_gt (M_ (g := aH) (o := .cells #[.int .i64 0, .int .i64 0, .int .i64 0, .int .i64 0] 32 (0, 0)) (by refine kB ?_; exact ad.out)) : af ≠ aH)); clear ab; clear ad; clear HB; have ab := aT; have ad := aU; have HB := aV; have ac := aZ; have kn := bf; have aS := bs; have ai := bM; have bw := eg; have ah := eh; have bg := ei; clear aT aU aV aZ bf bs bM eg eh ei; clear hb hbox hg; have ko := bw.out; have kp := ai.out; have kr := bg.out; have ks := ah.out; have fa : aW.cell? ⟨af, 0, none⟩ = some (.int .i64 0) := (D_ ac.out 0).trans rfl; have fb : aW.cell? ⟨af, 1, none⟩ = some (.int .i64 0) := (D_ ac.out 1).trans rfl; have fc : aW.cell? ⟨af, 2, none⟩ = some (.int .i64 0) := (D_ ac.out 2).trans rfl; have fd : aW.cell? ⟨af, 3, none⟩ = some (.int .i64 0) := (D_ ac.out 3).trans rfl; have fe : aW.cell? ⟨af, 4, none⟩ = some (.int .i64 0) := (D_ ac.out 4).trans rfl; have ff : aW.cell? ⟨af, 5, none⟩ = some (.int .i64 0) := (D_ ac.out 5).trans rfl; have fg : aW.cell? ⟨af, 6, none⟩ = some (.int .i64 0) := (D_ ac.out 6).trans rfl; have fh : aW.cell? ⟨af, 7, none⟩ = some (.int .i64 0) := (D_ ac.out 7).trans rfl; have fi := B_ ac.out 0; have fj := B_ ac.out 1; have fk := B_ ac.out 2; have fl := B_ ac.out 3; have fm := B_ ac.out 4; have fo := B_ ac.out 5; have fp := B_ ac.out 6; have fq := B_ ac.out 7))
      (try simp only [Act.put, List.setIfInBounds_toArray, List.set_cons_zero, List.set_cons_succ])
      go_cut [69] (fun v69 wc => ∃ (kq : Nat) (cC : Bool), v69 = .bool cC ∧ A_ (pochoirref32_At.j1 kq a2 a3 cC aq ar au av aw ax ay az aa an aj ((Z_ aa a1).f0) ((Z_ aa a1).f1.f0) ((Z_ aa a1).f1.f1) ((Z_ aa a1).f1.f2) ((Z_ aa a1).f1.f3) ((Z_ aa a1).f2.f0) ((Z_ aa a1).f2.f1) ((Z_ aa a1).f2.f2) = some (r1, r2, r3, r4, r5)) ∧ A_ (kq ≤ eH) ∧ A_ (wc.heap[ae]? = some (.cells #[.int .i64 aq, .int .i64 ar, .int .i64 au, .int .i64 av, .int .i64 aw, .int .i64 ax, .int .i64 ay, .int .i64 az, (.slice (some ad285) aa.length aP), (.slice aQ an.length aR), (.slice aK aj.length aL)] 28 (0, 0))) ∧ A_ (wc.heap[aH]? = some (.cells #[.int .i64 0, .int .i64 0, .int .i64 0, .int .i64 0] 32 (0, 0))) ∧ A_ (wc.heap[af]? = some (.cells #[.int .i64 ((Z_ aa a1).f0), .int .i64 ((Z_ aa a1).f1.f0), .int .i64 ((Z_ aa a1).f1.f1), .int .i64 ((Z_ aa a1).f1.f2), .int .i64 ((Z_ aa a1).f1.f3), .int .i64 ((Z_ aa a1).f2.f0), .int .i64 ((Z_ aa a1).f2.f1), .int .i64 ((Z_ aa a1).f2.f2)] 54 (0, 0))) ∧ A_ (Below w.heap.size w wc))
      case first =>
       have H := g1.out
       clear g1
       by_cases c33 : ((Z_ aa a1).f1.f2) = 0
       ·rw [if_pos c33] at H
        have b7 : (((Z_ aa a1).f1.f2) == 0) = true := beq_iff_eq.mpr c33
        have gN : (((Z_ aa a1).f1.f2) != 0) = false := bne_eq_false_iff_eq.mpr c33
        clear c33
        (first | rw [b7] | (simp only [i64_w, i32_w]; rw [b7]) | skip)
        have H' := A_.mk H
        clear H
        have kt := bw.out
        have ku := ai.out
        have kv := bg.out
        have kw := ah.out
        have fr : aW.cell? ⟨af, 0, none⟩ = some (.int .i64 0) := (D_ ac.out 0).trans rfl
        have fs : aW.cell? ⟨af, 1, none⟩ = some (.int .i64 0) := (D_ ac.out 1).trans rfl
        have ft : aW.cell? ⟨af, 2, none⟩ = some (.int .i64 0) := (D_ ac.out 2).trans rfl
        have fu : aW.cell? ⟨af, 3, none⟩ = some (.int .i64 0) := (D_ ac.out 3).trans rfl
        have fv : aW.cell? ⟨af, 4, none⟩ = some (.int .i64 0) := (D_ ac.out 4).trans rfl
        have fw : aW.cell? ⟨af, 5, none⟩ = some (.int .i64 0) := (D_ ac.out 5).trans rfl
        have fx : aW.cell? ⟨af, 6, none⟩ = some (.int .i64 0) := (D_ ac.out 6).trans rfl
        have fy : aW.cell? ⟨af, 7, none⟩ = some (.int .i64 0) := (D_ ac.out 7).trans rfl
        have fz := B_ ac.out 0
        have fA := B_ ac.out 1
        have fB := B_ ac.out 2
        have fC := B_ ac.out 3
        have fD := B_ ac.out 4
        have fE := B_ ac.out 5
        have fF := B_ ac.out 6
        have fG := B_ ac.out 7
        go_wp2
        go_meet
        case rel => exact ⟨_, (true), (by first | rfl | (simp; done) | (simp [*]; done)), H', ⟨by have := cB.out; first | omega | exact Nat.le_refl _⟩, ⟨by refine kB ?_; refine J_ ?_ ai.out _; refine kB ?_; refine J_ ?_ ai.out _; refine kB ?_; refine J_ ?_ ai.out _; refine kB ?_; refine J_ ?_ ai.out _; refine kB ?_; refine J_ ?_ ai.out _; refine kB ?_; refine J_ ?_ ai.out _; refine kB ?_; refine J_ ?_ ai.out _; refine kB ?_; refine J_ ?_ ai.out _; refine kB ?_; exact ab.out⟩, ⟨by refine kB ?_; refine J_ ?_ ah.out _; refine kB ?_; refine J_ ?_ ah.out _; refine kB ?_; refine J_ ?_ ah.out _; refine kB ?_; refine J_ ?_ ah.out _; refine kB ?_; refine J_ ?_ ah.out _; refine kB ?_; refine J_ ?_ ah.out _; refine kB ?_; refine J_ ?_ ah.out _; refine kB ?_; refine J_ ?_ ah.out _; refine kB ?_; exact ad.out⟩, ⟨by refine kB ?_; refine L_ (cs := #[.int .i64 ((Z_ aa a1).f0), .int .i64 ((Z_ aa a1).f1.f0), .int .i64 ((Z_ aa a1).f1.f1), .int .i64 ((Z_ aa a1).f1.f2), .int .i64 ((Z_ aa a1).f1.f3), .int .i64 ((Z_ aa a1).f2.f0), .int .i64 ((Z_ aa a1).f2.f1), .int .i64 0]) ?_ 7 _ rfl; refine kB ?_; refine L_ (cs := #[.int .i64 ((Z_ aa a1).f0), .int .i64 ((Z_ aa a1).f1.f0), .int .i64 ((Z_ aa a1).f1.f1), .int .i64 ((Z_ aa a1).f1.f2), .int .i64 ((Z_ aa a1).f1.f3), .int .i64 ((Z_ aa a1).f2.f0), .int .i64 0, .int .i64 0]) ?_ 6 _ rfl; refine kB ?_; refine L_ (cs := #[.int .i64 ((Z_ aa a1).f0), .int .i64 ((Z_ aa a1).f1.f0), .int .i64 ((Z_ aa a1).f1.f1), .int .i64 ((Z_ aa a1).f1.f2), .int .i64 ((Z_ aa a1).f1.f3), .int .i64 0, .int .i64 0, .int .i64 0]) ?_ 5 _ rfl; refine kB ?_; refine L_ (cs := #[.int .i64 ((Z_ aa a1).f0), .int .i64 ((Z_ aa a1).f1.f0), .int .i64 ((Z_ aa a1).f1.f1), .int .i64 ((Z_ aa a1).f1.f2), .int .i64 0, .int .i64 0, .int .i64 0, .int .i64 0]) ?_ 4 _ rfl; refine kB ?_; refine L_ (cs := #[.int .i64 ((Z_ aa a1).f0), .int .i64 ((Z_ aa a1).f1.f0), .int .i64 ((Z_ aa a1).f1.f1), .int .i64 0, .int .i64 0, .int .i64 0, .int .i64 0, .int .i64 0]) ?_ 3 _ rfl; refine kB ?_; refine L_ (cs := #[.int .i64 ((Z_ aa a1).f0), .int .i64 ((Z_ aa a1).f1.f0), .int .i64 0, .int .i64 0, .int .i64 0, .int .i64 0, .int .i64 0, .int .i64 0]) ?_ 2 _ rfl; refine kB ?_; refine L_ (cs := #[.int .i64 ((Z_ aa a1).f0), .int .i64 0, .int .i64 0, .int .i64 0, .int .i64 0, .int .i64 0, .int .i64 0, .int .i64 0]) ?_ 1 _ rfl; refine kB ?_; refine L_ (cs := #[.int .i64 0, .int .i64 0, .int .i64 0, .int .i64 0, .int .i64 0, .int .i64 0, .int .i64 0, .int .i64 0]) ?_ 0 _ rfl; refine kB ?_; exact ac.out⟩, ⟨by exact lB HB.out⟩⟩
       ·rw [if_neg c33] at H
        have b7 : (((Z_ aa a1).f1.f2) == 0) = false := beq_eq_false_iff_ne.mpr c33
        have gN : (((Z_ aa a1).f1.f2) != 0) = true := bne_iff_ne.mpr c33
        (first | rw [b7] | (simp only [i64_w, i32_w]; rw [b7]) | skip)
        by_cases c37 : a2 < 0
        ·rw [if_pos c37] at H
         have gO : decide (a2 < 0) = true := decide_eq_true c37
         clear c37
         have H' := A_.mk H
         clear H
         have kx := bw.out
         have ky := ai.out
         have kz := bg.out
         have kA := ah.out
         have fH : aW.cell? ⟨af, 0, none⟩ = some (.int .i64 0) := (D_ ac.out 0).trans rfl
         have fI : aW.cell? ⟨af, 1, none⟩ = some (.int .i64 0) := (D_ ac.out 1).trans rfl
         have fJ : aW.cell? ⟨af, 2, none⟩ = some (.int .i64 0) := (D_ ac.out 2).trans rfl
         have fK : aW.cell? ⟨af, 3, none⟩ = some (.int .i64 0) := (D_ ac.out 3).trans rfl
         have fL : aW.cell? ⟨af, 4, none⟩ = some (.int .i64 0) := (D_ ac.out 4).trans rfl
         have fM : aW.cell? ⟨af, 5, none⟩ = some (.int .i64 0) := (D_ ac.out 5).trans rfl
         have fN : aW.cell? ⟨af, 6, none⟩ = some (.int .i64 0) := (D_ ac.out 6).trans rfl
         have fO : aW.cell? ⟨af, 7, none⟩ = some (.int .i64 0) := (D_ ac.out 7).trans rfl
         have fP := B_ ac.out 0
         have fQ := B_ ac.out 1
         have fR := B_ ac.out 2
         have fS := B_ ac.out 3
         have fT := B_ ac.out 4
         have fU := B_ ac.out 5
         have fV := B_ ac.out 6
         have fW := B_ ac.out 7
         go_wp2
         go_meet
         case rel => exact ⟨_, (true), (by first | rfl | (simp; done) | (simp [*]; done)), H', ⟨by have := cB.out; first | omega | exact Nat.le_refl _⟩, ⟨by refine kB ?_; refine J_ ?_ ai.out _; refine kB ?_; refine J_ ?_ ai.out _; refine kB ?_; refine J_ ?_ ai.out _; refine kB ?_; refine J_ ?_ ai.out _; refine kB ?_; refine J_ ?_ ai.out _; refine kB ?_; refine J_ ?_ ai.out _; refine kB ?_; refine J_ ?_ ai.out _; refine kB ?_; refine J_ ?_ ai.out _; refine kB ?_; exact ab.out⟩, ⟨by refine kB ?_; refine J_ ?_ ah.out _; refine kB ?_; refine J_ ?_ ah.out _; refine kB ?_; refine J_ ?_ ah.out _; refine kB ?_; refine J_ ?_ ah.out _; refine kB ?_; refine J_ ?_ ah.out _; refine kB ?_; refine J_ ?_ ah.out _; refine kB ?_; refine J_ ?_ ah.out _; refine kB ?_; refine J_ ?_ ah.out _; refine kB ?_; exact ad.out⟩, ⟨by refine kB ?_; refine L_ (cs := #[.int .i64 ((Z_ aa a1).f0), .int .i64 ((Z_ aa a1).f1.f0), .int .i64 ((Z_ aa a1).f1.f1), .int .i64 ((Z_ aa a1).f1.f2), .int .i64 ((Z_ aa a1).f1.f3), .int .i64 ((Z_ aa a1).f2.f0), .int .i64 ((Z_ aa a1).f2.f1), .int .i64 0]) ?_ 7 _ rfl; refine kB ?_; refine L_ (cs := #[.int .i64 ((Z_ aa a1).f0), .int .i64 ((Z_ aa a1).f1.f0), .int .i64 ((Z_ aa a1).f1.f1), .int .i64 ((Z_ aa a1).f1.f2), .int .i64 ((Z_ aa a1).f1.f3), .int .i64 ((Z_ aa a1).f2.f0), .int .i64 0, .int .i64 0]) ?_ 6 _ rfl; refine kB ?_; refine L_ (cs := #[.int .i64 ((Z_ aa a1).f0), .int .i64 ((Z_ aa a1).f1.f0), .int .i64 ((Z_ aa a1).f1.f1), .int .i64 ((Z_ aa a1).f1.f2), .int .i64 ((Z_ aa a1).f1.f3), .int .i64 0, .int .i64 0, .int .i64 0]) ?_ 5 _ rfl; refine kB ?_; refine L_ (cs := #[.int .i64 ((Z_ aa a1).f0), .int .i64 ((Z_ aa a1).f1.f0), .int .i64 ((Z_ aa a1).f1.f1), .int .i64 ((Z_ aa a1).f1.f2), .int .i64 0, .int .i64 0, .int .i64 0, .int .i64 0]) ?_ 4 _ rfl; refine kB ?_; refine L_ (cs := #[.int .i64 ((Z_ aa a1).f0), .int .i64 ((Z_ aa a1).f1.f0), .int .i64 ((Z_ aa a1).f1.f1), .int .i64 0, .int .i64 0, .int .i64 0, .int .i64 0, .int .i64 0]) ?_ 3 _ rfl; refine kB ?_; refine L_ (cs := #[.int .i64 ((Z_ aa a1).f0), .int .i64 ((Z_ aa a1).f1.f0), .int .i64 0, .int .i64 0, .int .i64 0, .int .i64 0, .int .i64 0, .int .i64 0]) ?_ 2 _ rfl; refine kB ?_; refine L_ (cs := #[.int .i64 ((Z_ aa a1).f0), .int .i64 0, .int .i64 0, .int .i64 0, .int .i64 0, .int .i64 0, .int .i64 0, .int .i64 0]) ?_ 1 _ rfl; refine kB ?_; refine L_ (cs := #[.int .i64 0, .int .i64 0, .int .i64 0, .int .i64 0, .int .i64 0, .int .i64 0, .int .i64 0, .int .i64 0]) ?_ 0 _ rfl; refine kB ?_; exact ac.out⟩, ⟨by exact lB HB.out⟩⟩
        ·rw [if_neg c37] at H
         have gO : decide (a2 < 0) = false := decide_eq_false c37
         clear c37
         by_cases c41 : a3 < 0
         ·rw [if_pos c41] at H
          have gP : decide (a3 < 0) = true := decide_eq_true c41
          clear c41
          have H' := A_.mk H
          clear H
          have kC := bw.out
          have kD := ai.out
          have kE := bg.out
          have kF := ah.out
          have fX : aW.cell? ⟨af, 0, none⟩ = some (.int .i64 0) := (D_ ac.out 0).trans rfl
          have fY : aW.cell? ⟨af, 1, none⟩ = some (.int .i64 0) := (D_ ac.out 1).trans rfl
          have fZ : aW.cell? ⟨af, 2, none⟩ = some (.int .i64 0) := (D_ ac.out 2).trans rfl
          have f0 : aW.cell? ⟨af, 3, none⟩ = some (.int .i64 0) := (D_ ac.out 3).trans rfl
          have f1 : aW.cell? ⟨af, 4, none⟩ = some (.int .i64 0) := (D_ ac.out 4).trans rfl
          have f2 : aW.cell? ⟨af, 5, none⟩ = some (.int .i64 0) := (D_ ac.out 5).trans rfl
          have f3 : aW.cell? ⟨af, 6, none⟩ = some (.int .i64 0) := (D_ ac.out 6).trans rfl
          have f4 : aW.cell? ⟨af, 7, none⟩ = some (.int .i64 0) := (D_ ac.out 7).trans rfl
          have f5 := B_ ac.out 0
          have f6 := B_ ac.out 1
          have f7 := B_ ac.out 2
          have f8 := B_ ac.out 3
          have f9 := B_ ac.out 4
          have ga := B_ ac.out 5
          have gb := B_ ac.out 6
          have gc := B_ ac.out 7
          go_wp2
          go_meet
          case rel => exact ⟨_, (true), (by first | rfl | (simp; done) | (simp [*]; done)), H', ⟨by have := cB.out; first | omega | exact Nat.le_refl _⟩, ⟨by refine kB ?_; refine J_ ?_ ai.out _; refine kB ?_; refine J_ ?_ ai.out _; refine kB ?_; refine J_ ?_ ai.out _; refine kB ?_; refine J_ ?_ ai.out _; refine kB ?_; refine J_ ?_ ai.out _; refine kB ?_; refine J_ ?_ ai.out _; refine kB ?_; refine J_ ?_ ai.out _; refine kB ?_; refine J_ ?_ ai.out _; refine kB ?_; exact ab.out⟩, ⟨by refine kB ?_; refine J_ ?_ ah.out _; refine kB ?_; refine J_ ?_ ah.out _; refine kB ?_; refine J_ ?_ ah.out _; refine kB ?_; refine J_ ?_ ah.out _; refine kB ?_; refine J_ ?_ ah.out _; refine kB ?_; refine J_ ?_ ah.out _; refine kB ?_; refine J_ ?_ ah.out _; refine kB ?_; refine J_ ?_ ah.out _; refine kB ?_; exact ad.out⟩, ⟨by refine kB ?_; refine L_ (cs := #[.int .i64 ((Z_ aa a1).f0), .int .i64 ((Z_ aa a1).f1.f0), .int .i64 ((Z_ aa a1).f1.f1), .int .i64 ((Z_ aa a1).f1.f2), .int .i64 ((Z_ aa a1).f1.f3), .int .i64 ((Z_ aa a1).f2.f0), .int .i64 ((Z_ aa a1).f2.f1), .int .i64 0]) ?_ 7 _ rfl; refine kB ?_; refine L_ (cs := #[.int .i64 ((Z_ aa a1).f0), .int .i64 ((Z_ aa a1).f1.f0), .int .i64 ((Z_ aa a1).f1.f1), .int .i64 ((Z_ aa a1).f1.f2), .int .i64 ((Z_ aa a1).f1.f3), .int .i64 ((Z_ aa a1).f2.f0), .int .i64 0, .int .i64 0]) ?_ 6 _ rfl; refine kB ?_; refine L_ (cs := #[.int .i64 ((Z_ aa a1).f0), .int .i64 ((Z_ aa a1).f1.f0), .int .i64 ((Z_ aa a1).f1.f1), .int .i64 ((Z_ aa a1).f1.f2), .int .i64 ((Z_ aa a1).f1.f3), .int .i64 0, .int .i64 0, .int .i64 0]) ?_ 5 _ rfl; refine kB ?_; refine L_ (cs := #[.int .i64 ((Z_ aa a1).f0), .int .i64 ((Z_ aa a1).f1.f0), .int .i64 ((Z_ aa a1).f1.f1), .int .i64 ((Z_ aa a1).f1.f2), .int .i64 0, .int .i64 0, .int .i64 0, .int .i64 0]) ?_ 4 _ rfl; refine kB ?_; refine L_ (cs := #[.int .i64 ((Z_ aa a1).f0), .int .i64 ((Z_ aa a1).f1.f0), .int .i64 ((Z_ aa a1).f1.f1), .int .i64 0, .int .i64 0, .int .i64 0, .int .i64 0, .int .i64 0]) ?_ 3 _ rfl; refine kB ?_; refine L_ (cs := #[.int .i64 ((Z_ aa a1).f0), .int .i64 ((Z_ aa a1).f1.f0), .int .i64 0, .int .i64 0, .int .i64 0, .int .i64 0, .int .i64 0, .int .i64 0]) ?_ 2 _ rfl; refine kB ?_; refine L_ (cs := #[.int .i64 ((Z_ aa a1).f0), .int .i64 0, .int .i64 0, .int .i64 0, .int .i64 0, .int .i64 0, .int .i64 0, .int .i64 0]) ?_ 1 _ rfl; refine kB ?_; refine L_ (cs := #[.int .i64 0, .int .i64 0, .int .i64 0, .int .i64 0, .int .i64 0, .int .i64 0, .int .i64 0, .int .i64 0]) ?_ 0 _ rfl; refine kB ?_; exact ac.out⟩, ⟨by exact lB HB.out⟩⟩
         ·rw [if_neg c41] at H
          have gP : decide (a3 < 0) = false := decide_eq_false c41
          clear c41
          by_cases c45 : a2 > (wrap64 (256 * (wrap64 (((Z_ aa a1).f1.f2) - 1))))
          ·rw [if_pos c45] at H
           have gQ : decide ((wrap64 (256 * (wrap64 (((Z_ aa a1).f1.f2) - 1)))) < a2) = true := decide_eq_true c45
           clear c45
           have H' := A_.mk H
           clear H
           have kG := bw.out
           have kH := ai.out
           have kI := bg.out
           have kJ := ah.out
           have gd : aW.cell? ⟨af, 0, none⟩ = some (.int .i64 0) := (D_ ac.out 0).trans rfl
           have ge : aW.cell? ⟨af, 1, none⟩ = some (.int .i64 0) := (D_ ac.out 1).trans rfl
           have gf : aW.cell? ⟨af, 2, none⟩ = some (.int .i64 0) := (D_ ac.out 2).trans rfl
           have gg : aW.cell? ⟨af, 3, none⟩ = some (.int .i64 0) := (D_ ac.out 3).trans rfl
           have gh : aW.cell? ⟨af, 4, none⟩ = some (.int .i64 0) := (D_ ac.out 4).trans rfl
           have gi : aW.cell? ⟨af, 5, none⟩ = some (.int .i64 0) := (D_ ac.out 5).trans rfl
           have gj : aW.cell? ⟨af, 6, none⟩ = some (.int .i64 0) := (D_ ac.out 6).trans rfl
           have gl : aW.cell? ⟨af, 7, none⟩ = some (.int .i64 0) := (D_ ac.out 7).trans rfl
           have gm := B_ ac.out 0
           have gn := B_ ac.out 1
           have gp := B_ ac.out 2
           have gq := B_ ac.out 3
           have gr := B_ ac.out 4
           have gs := B_ ac.out 5
           have gt := B_ ac.out 6
           have gu := B_ ac.out 7
           go_wp2
           go_meet
           case rel => exact ⟨_, (true), (by first | rfl | (simp; done) | (simp [*]; done)), H', ⟨by have := cB.out; first | omega | exact Nat.le_refl _⟩, ⟨by refine kB ?_; refine J_ ?_ ai.out _; refine kB ?_; refine J_ ?_ ai.out _; refine kB ?_; refine J_ ?_ ai.out _; refine kB ?_; refine J_ ?_ ai.out _; refine kB ?_; refine J_ ?_ ai.out _; refine kB ?_; refine J_ ?_ ai.out _; refine kB ?_; refine J_ ?_ ai.out _; refine kB ?_; refine J_ ?_ ai.out _; refine kB ?_; exact ab.out⟩, ⟨by refine kB ?_; refine J_ ?_ ah.out _; refine kB ?_; refine J_ ?_ ah.out _; refine kB ?_; refine J_ ?_ ah.out _; refine kB ?_; refine J_ ?_ ah.out _; refine kB ?_; refine J_ ?_ ah.out _; refine kB ?_; refine J_ ?_ ah.out _; refine kB ?_; refine J_ ?_ ah.out _; refine kB ?_; refine J_ ?_ ah.out _; refine kB ?_; exact ad.out⟩, ⟨by refine kB ?_; refine L_ (cs := #[.int .i64 ((Z_ aa a1).f0), .int .i64 ((Z_ aa a1).f1.f0), .int .i64 ((Z_ aa a1).f1.f1), .int .i64 ((Z_ aa a1).f1.f2), .int .i64 ((Z_ aa a1).f1.f3), .int .i64 ((Z_ aa a1).f2.f0), .int .i64 ((Z_ aa a1).f2.f1), .int .i64 0]) ?_ 7 _ rfl; refine kB ?_; refine L_ (cs := #[.int .i64 ((Z_ aa a1).f0), .int .i64 ((Z_ aa a1).f1.f0), .int .i64 ((Z_ aa a1).f1.f1), .int .i64 ((Z_ aa a1).f1.f2), .int .i64 ((Z_ aa a1).f1.f3), .int .i64 ((Z_ aa a1).f2.f0), .int .i64 0, .int .i64 0]) ?_ 6 _ rfl; refine kB ?_; refine L_ (cs := #[.int .i64 ((Z_ aa a1).f0), .int .i64 ((Z_ aa a1).f1.f0), .int .i64 ((Z_ aa a1).f1.f1), .int .i64 ((Z_ aa a1).f1.f2), .int .i64 ((Z_ aa a1).f1.f3), .int .i64 0, .int .i64 0, .int .i64 0]) ?_ 5 _ rfl; refine kB ?_; refine L_ (cs := #[.int .i64 ((Z_ aa a1).f0), .int .i64 ((Z_ aa a1).f1.f0), .int .i64 ((Z_ aa a1).f1.f1), .int .i64 ((Z_ aa a1).f1.f2), .int .i64 0, .int .i64 0, .int .i64 0, .int .i64 0]) ?_ 4 _ rfl; refine kB ?_; refine L_ (cs := #[.int .i64 ((Z_ aa a1).f0), .int .i64 ((Z_ aa a1).f1.f0), .int .i64 ((Z_ aa a1).f1.f1), .int .i64 0, .int .i64 0, .int .i64 0, .int .i64 0, .int .i64 0]) ?_ 3 _ rfl; refine kB ?_; refine L_ (cs := #[.int .i64 ((Z_ aa a1).f0), .int .i64 ((Z_ aa a1).f1.f0), .int .i64 0, .int .i64 0, .int .i64 0, .int .i64 0, .int .i64 0, .int .i64 0]) ?_ 2 _ rfl; refine kB ?_; refine L_ (cs := #[.int .i64 ((Z_ aa a1).f0), .int .i64 0, .int .i64 0, .int .i64 0, .int .i64 0, .int .i64 0, .int .i64 0, .int .i64 0]) ?_ 1 _ rfl; refine kB ?_; refine L_ (cs := #[.int .i64 0, .int .i64 0, .int .i64 0, .int .i64 0, .int .i64 0, .int .i64 0, .int .i64 0, .int .i64 0]) ?_ 0 _ rfl; refine kB ?_; exact ac.out⟩, ⟨by exact lB HB.out⟩⟩
          ·rw [if_neg c45] at H
           have gQ : decide ((wrap64 (256 * (wrap64 (((Z_ aa a1).f1.f2) - 1)))) < a2) = false := decide_eq_false c45
           clear c45
           have H' := A_.mk H
           clear H
           have kK := bw.out
           have kL := ai.out
           have kM := bg.out
           have kN := ah.out
           have gv : aW.cell? ⟨af, 0, none⟩ = some (.int .i64 0) := (D_ ac.out 0).trans rfl
           have gw : aW.cell? ⟨af, 1, none⟩ = some (.int .i64 0) := (D_ ac.out 1).trans rfl
           have gx : aW.cell? ⟨af, 2, none⟩ = some (.int .i64 0) := (D_ ac.out 2).trans rfl
           have gy : aW.cell? ⟨af, 3, none⟩ = some (.int .i64 0) := (D_ ac.out 3).trans rfl
           have gz : aW.cell? ⟨af, 4, none⟩ = some (.int .i64 0) := (D_ ac.out 4).trans rfl
           have gA : aW.cell? ⟨af, 5, none⟩ = some (.int .i64 0) := (D_ ac.out 5).trans rfl
           have gB : aW.cell? ⟨af, 6, none⟩ = some (.int .i64 0) := (D_ ac.out 6).trans rfl
           have gC : aW.cell? ⟨af, 7, none⟩ = some (.int .i64 0) := (D_ ac.out 7).trans rfl
           have gD := B_ ac.out 0
           have gE := B_ ac.out 1
           have gF := B_ ac.out 2
           have gG := B_ ac.out 3
           have gH := B_ ac.out 4
           have gI := B_ ac.out 5
           have gJ := B_ ac.out 6
           have gK := B_ ac.out 7
           go_wp2
           go_meet
           case rel => exact ⟨_, (decide (a3 > (wrap64 (256 * (wrap64 (((Z_ aa a1).f1.f3) - 1)))))), (by first | rfl | (simp; done) | (simp [*]; done)), H', ⟨by have := cB.out; first | omega | exact Nat.le_refl _⟩, ⟨by refine kB ?_; refine J_ ?_ ai.out _; refine kB ?_; refine J_ ?_ ai.out _; refine kB ?_; refine J_ ?_ ai.out _; refine kB ?_; refine J_ ?_ ai.out _; refine kB ?_; refine J_ ?_ ai.out _; refine kB ?_; refine J_ ?_ ai.out _; refine kB ?_; refine J_ ?_ ai.out _; refine kB ?_; refine J_ ?_ ai.out _; refine kB ?_; exact ab.out⟩, ⟨by refine kB ?_; refine J_ ?_ ah.out _; refine kB ?_; refine J_ ?_ ah.out _; refine kB ?_; refine J_ ?_ ah.out _; refine kB ?_; refine J_ ?_ ah.out _; refine kB ?_; refine J_ ?_ ah.out _; refine kB ?_; refine J_ ?_ ah.out _; refine kB ?_; refine J_ ?_ ah.out _; refine kB ?_; refine J_ ?_ ah.out _; refine kB ?_; exact ad.out⟩, ⟨by refine kB ?_; refine L_ (cs := #[.int .i64 ((Z_ aa a1).f0), .int .i64 ((Z_ aa a1).f1.f0), .int .i64 ((Z_ aa a1).f1.f1), .int .i64 ((Z_ aa a1).f1.f2), .int .i64 ((Z_ aa a1).f1.f3), .int .i64 ((Z_ aa a1).f2.f0), .int .i64 ((Z_ aa a1).f2.f1), .int .i64 0]) ?_ 7 _ rfl; refine kB ?_; refine L_ (cs := #[.int .i64 ((Z_ aa a1).f0), .int .i64 ((Z_ aa a1).f1.f0), .int .i64 ((Z_ aa a1).f1.f1), .int .i64 ((Z_ aa a1).f1.f2), .int .i64 ((Z_ aa a1).f1.f3), .int .i64 ((Z_ aa a1).f2.f0), .int .i64 0, .int .i64 0]) ?_ 6 _ rfl; refine kB ?_; refine L_ (cs := #[.int .i64 ((Z_ aa a1).f0), .int .i64 ((Z_ aa a1).f1.f0), .int .i64 ((Z_ aa a1).f1.f1), .int .i64 ((Z_ aa a1).f1.f2), .int .i64 ((Z_ aa a1).f1.f3), .int .i64 0, .int .i64 0, .int .i64 0]) ?_ 5 _ rfl; refine kB ?_; refine L_ (cs := #[.int .i64 ((Z_ aa a1).f0), .int .i64 ((Z_ aa a1).f1.f0), .int .i64 ((Z_ aa a1).f1.f1), .int .i64 ((Z_ aa a1).f1.f2), .int .i64 0, .int .i64 0, .int .i64 0, .int .i64 0]) ?_ 4 _ rfl; refine kB ?_; refine L_ (cs := #[.int .i64 ((Z_ aa a1).f0), .int .i64 ((Z_ aa a1).f1.f0), .int .i64 ((Z_ aa a1).f1.f1), .int .i64 0, .int .i64 0, .int .i64 0, .int .i64 0, .int .i64 0]) ?_ 3 _ rfl; refine kB ?_; refine L_ (cs := #[.int .i64 ((Z_ aa a1).f0), .int .i64 ((Z_ aa a1).f1.f0), .int .i64 0, .int .i64 0, .int .i64 0, .int .i64 0, .int .i64 0, .int .i64 0]) ?_ 2 _ rfl; refine kB ?_; refine L_ (cs := #[.int .i64 ((Z_ aa a1).f0), .int .i64 0, .int .i64 0, .int .i64 0, .int .i64 0, .int .i64 0, .int .i64 0, .int .i64 0]) ?_ 1 _ rfl; refine kB ?_; refine L_ (cs := #[.int .i64 0, .int .i64 0, .int .i64 0, .int .i64 0, .int .i64 0, .int .i64 0, .int .i64 0, .int .i64 0]) ?_ 0 _ rfl; refine kB ?_; exact ac.out⟩, ⟨by exact lB HB.out⟩⟩
      case rest =>
       clear g1
       try clear c1
       try clear c2
       try clear p2
       try clear q2
       try clear jK
       try clear c3
       try clear c4
       try clear c5
       try clear p6
       try clear c9
       try clear c10
       try clear bN
       try clear c11
       try clear c14
       try clear c18
       try clear c21
       try clear c22
       try clear c24
       try clear he
       try clear c25
       try clear hf
       try clear c27
       try clear p28
       try clear q28
       try clear iy
       try clear c30
       try clear c31
       try clear c33
       try clear b7
       try clear gN
       try clear c34
       try clear c35
       try clear c37
       try clear gO
       try clear c38
       try clear c39
       try clear c41
       try clear gP
       try clear c42
       try clear c43
       try clear c45
       try clear gQ
       try clear c46
       try clear c47
       try clear c49
       try clear c50
       try clear cO
       try clear cP
       try clear cn
       try clear cQ
       try clear cR
       try clear cS
       try clear cT
       try clear cU
       try clear cV
       try clear cW
       try clear cX
       try clear df
       try clear dg
       try clear cp
       try clear dh
       try clear di
       try clear dj
       try clear dk
       try clear dl
       try clear dm
       try clear dn
       try clear dp
       try clear dB
       try clear dC
       try clear cr
       try clear dD
       try clear dE
       try clear dF
       try clear dG
       try clear dH
       try clear dI
       try clear dJ
       try clear dK
       try clear dV
       try clear dW
       try clear cu
       try clear dX
       try clear dY
       try clear dZ
       try clear d0
       try clear d1
       try clear d2
       try clear d3
       try clear d4
       try clear eI
       try clear eJ
       try clear eK
       try clear eL
       try clear eQ
       try clear eR
       try clear ew
       try clear eS
       try clear eT
       try clear eU
       try clear eV
       try clear eW
       try clear eX
       try clear eY
       try clear eZ
       try clear fa
       try clear fb
       try clear fc
       try clear fd
       try clear fe
       try clear ff
       try clear fg
       try clear fh
       try clear fr
       try clear fs
       try clear ft
       try clear fu
       try clear fv
       try clear fw
       try clear fx
       try clear fy
       try clear fH
       try clear fI
       try clear fJ
       try clear fK
       try clear fL
       try clear fM
       try clear fN
       try clear fO
       try clear fX
       try clear fY
       try clear fZ
       try clear f0
       try clear f1
       try clear f2
       try clear f3
       try clear f4
       try clear gd
       try clear ge
       try clear gf
       try clear gg
       try clear gh
       try clear gi
       try clear gj
       try clear gl
       try clear gv
       try clear gw
       try clear gx
       try clear gy
       try clear gz
       try clear gA
       try clear gB
       try clear gC
       try clear cY
       try clear cZ
       try clear co
       try clear c0
       try clear c7
       try clear c8
       try clear da
       try clear db
       try clear dc
       try clear dd
       try clear de
       try clear dq
       try clear dr
       try clear cq
       try clear dt
       try clear du
       try clear dv
       try clear dw
       try clear dx
       try clear dy
       try clear dz
       try clear dA
       try clear dL
       try clear dM
       try clear ct
       try clear dN
       try clear dO
       try clear dP
       try clear dQ
       try clear dR
       try clear dS
       try clear dT
       try clear dU
       try clear d5
       try clear d6
       try clear cv
       try clear d7
       try clear d8
       try clear d9
       try clear ea
       try clear eb
       try clear ec
       try clear ed
       try clear ee
       try clear eM
       try clear eN
       try clear eO
       try clear eP
       try clear e0
       try clear e1
       try clear ex
       try clear e2
       try clear e3
       try clear e4
       try clear e5
       try clear e6
       try clear e7
       try clear e8
       try clear e9
       try clear fi
       try clear fj
       try clear fk
       try clear fl
       try clear fm
       try clear fo
       try clear fp
       try clear fq
       try clear fz
       try clear fA
       try clear fB
       try clear fC
       try clear fD
       try clear fE
       try clear fF
       try clear fG
       try clear fP
       try clear fQ
       try clear fR
       try clear fS
       try clear fT
       try clear fU
       try clear fV
       try clear fW
       try clear f5
       try clear f6
       try clear f7
       try clear f8
       try clear f9
       try clear ga
       try clear gb
       try clear gc
       try clear gm
       try clear gn
       try clear gp
       try clear gq
       try clear gr
       try clear gs
       try clear gt
       try clear gu
       try clear gD
       try clear gE
       try clear gF
       try clear gG
       try clear gH
       try clear gI
       try clear gJ
       try clear gK
       try clear bZ
       try clear b0
       try clear b1
       try clear b2
       try clear b3
       try clear b4
       try clear b5
       try clear b6
       try clear p2
       try clear p285
       try clear q285
       obtain ⟨kq, cC, rfl, HA, gR, ab, ad, ac, HB⟩ := hcut
       cases kq with
       | zero => exact absurd HA.out (by simp [pochoirref32_At.j1])
       | succ ey =>
        have H := HA.out
        clear HA
        simp only [pochoirref32_At.j1] at H
        by_cases c52 : cC = true
        ·subst c52
         have H1 : (some (0, 0, 0, 0, 7)) = some (r1, r2, r3, r4, r5) := by rw [if_pos rfl] at H; exact H
         clear H
         have H := H1
         clear H1
         simp only [Option.some.injEq, Prod.mk.injEq] at H
         obtain ⟨rfl, rfl, rfl, rfl, rfl⟩ := H
         have kO := bv.out
         have kP := bu.out
         have kQ := ah.out
         have kR := bg.out
         have hj : wc.cell? ⟨aH, 0, none⟩ = some (.int .i64 0) := (D_ ad.out 0).trans rfl
         have hl : wc.cell? ⟨aH, 1, none⟩ = some (.int .i64 0) := (D_ ad.out 1).trans rfl
         have hm : wc.cell? ⟨aH, 2, none⟩ = some (.int .i64 0) := (D_ ad.out 2).trans rfl
         have hn : wc.cell? ⟨aH, 3, none⟩ = some (.int .i64 0) := (D_ ad.out 3).trans rfl
         have ho := B_ ad.out 0
         have hq := B_ ad.out 1
         have hs := B_ ad.out 2
         have ht := B_ ad.out 3
         go_wp2
         refine bodyPost_ret (results_ct rfl _ _ aH 32 #[.int .i64 0, .int .i64 0, .int .i64 0, .int .i64 0] (0, 0) _ rfl (by refine kB ?_; refine L_ (cs := #[.int .i64 0, .int .i64 0, .int .i64 0, .int .i64 0]) ?_ 3 _ rfl; refine kB ?_; refine L_ (cs := #[.int .i64 0, .int .i64 0, .int .i64 0, .int .i64 0]) ?_ 2 _ rfl; refine kB ?_; refine L_ (cs := #[.int .i64 0, .int .i64 0, .int .i64 0, .int .i64 0]) ?_ 1 _ rfl; refine kB ?_; refine L_ (cs := #[.int .i64 0, .int .i64 0, .int .i64 0, .int .i64 0]) ?_ 0 _ rfl; refine kB ?_; exact ad.out) Tryd.underlying32 rfl (by kernel_rfl)) rfl ?_
         exact ⟨by first | rfl | (simp [errW_none, errW_some] <;> rfl) | (simp [*, errW_none, errW_some] <;> rfl), by exact lB HB.out⟩
        ·replace c52 := Bool.eq_false_iff.mpr c52
         subst c52
         have H1 : ((pochoirref32_cut.f a2 ((Z_ aa a1).f1.f2)).bind fun cx => ((pochoirref32_cut.f a3 ((Z_ aa a1).f1.f3)).bind fun bL => (pochoirref32_At.l0 ey cx.1 cx.2 bL.1 bL.2 0 aq ar au av aw ax ay az aa an aj ((Z_ aa a1).f0) ((Z_ aa a1).f1.f0) ((Z_ aa a1).f1.f1) ((Z_ aa a1).f1.f2) ((Z_ aa a1).f1.f3) ((Z_ aa a1).f2.f0) ((Z_ aa a1).f2.f1) ((Z_ aa a1).f2.f2) 0 0 0 0))) = some (r1, r2, r3, r4, r5) := by rw [if_neg (show ¬ (false = true) by decide)] at H; exact H
         clear H
         have H := H1
         clear H1
         replace H := Option.bind_eq_some_iff.mp H
         obtain ⟨⟨bx, aN⟩, A560, H⟩ := H
         replace H : ((pochoirref32_cut.f a3 ((Z_ aa a1).f1.f3)).bind fun bL => (pochoirref32_At.l0 ey bx aN bL.1 bL.2 0 aq ar au av aw ax ay az aa an aj ((Z_ aa a1).f0) ((Z_ aa a1).f1.f0) ((Z_ aa a1).f1.f1) ((Z_ aa a1).f1.f2) ((Z_ aa a1).f1.f3) ((Z_ aa a1).f2.f0) ((Z_ aa a1).f2.f1) ((Z_ aa a1).f2.f2) 0 0 0 0)) = some (r1, r2, r3, r4, r5) := H
         have A56 := A_.mk A560
         clear A560
         replace H := Option.bind_eq_some_iff.mp H
         obtain ⟨⟨bA, aM⟩, A570, H⟩ := H
         replace H : (pochoirref32_At.l0 ey bx aN bA aM 0 aq ar au av aw ax ay az aa an aj ((Z_ aa a1).f0) ((Z_ aa a1).f1.f0) ((Z_ aa a1).f1.f1) ((Z_ aa a1).f1.f2) ((Z_ aa a1).f1.f3) ((Z_ aa a1).f2.f0) ((Z_ aa a1).f2.f1) ((Z_ aa a1).f2.f2) 0 0 0 0) = some (r1, r2, r3, r4, r5) := H
         have A57 := A_.mk A570
         clear A570
         have H' := A_.mk H
         clear H
         have kS := bw.out
         have kT := ai.out
         have kU := bg.out
         have kV := ah.out
         have hu : wc.cell? ⟨af, 0, none⟩ = some (.int .i64 ((Z_ aa a1).f0)) := (D_ ac.out 0).trans rfl
         have hv : wc.cell? ⟨af, 1, none⟩ = some (.int .i64 ((Z_ aa a1).f1.f0)) := (D_ ac.out 1).trans rfl
         have hw : wc.cell? ⟨af, 2, none⟩ = some (.int .i64 ((Z_ aa a1).f1.f1)) := (D_ ac.out 2).trans rfl
         have hx : wc.cell? ⟨af, 3, none⟩ = some (.int .i64 ((Z_ aa a1).f1.f2)) := (D_ ac.out 3).trans rfl
         have hy : wc.cell? ⟨af, 4, none⟩ = some (.int .i64 ((Z_ aa a1).f1.f3)) := (D_ ac.out 4).trans rfl
         have hz : wc.cell? ⟨af, 5, none⟩ = some (.int .i64 ((Z_ aa a1).f2.f0)) := (D_ ac.out 5).trans rfl
         have hA : wc.cell? ⟨af, 6, none⟩ = some (.int .i64 ((Z_ aa a1).f2.f1)) := (D_ ac.out 6).trans rfl
         have hB : wc.cell? ⟨af, 7, none⟩ = some (.int .i64 ((Z_ aa a1).f2.f2)) := (D_ ac.out 7).trans rfl
         have hC := B_ ac.out 0
         have hD := B_ ac.out 1
         have hE := B_ ac.out 2
         have hF := B_ ac.out 3
         have hG := B_ ac.out 4
         have hH := B_ ac.out 5
         have hI := B_ ac.out 6
         have hJ := B_ ac.out 7
         go_wp2_with (first | ((with_reducible refine P_ (f := 20) rfl ?_); refine R_ (some 76) rfl rfl Tryd.func20 (by kernel_rfl) rfl #[.int .i64 a2, .int .i64 ((Z_ aa a1).f1.f2)] rfl (by (try simp only [List.map_toArray, List.map_cons, List.map_nil]); first | done | rfl | (simp only [List.length_drop, List.length_take]; rfl)) ?_; (with_reducible refine (pochoirref32_cut.calls a2 ((Z_ aa a1).f1.f2) bx aN _ A56.out).mono ?_); rintro e ej ⟨rfl, hb⟩; refine ⟨_, rfl, ?_⟩; have aT := A_.mk (F_ (g := ae) (o := .cells #[.int .i64 aq, .int .i64 ar, .int .i64 au, .int .i64 av, .int .i64 aw, .int .i64 ax, .int .i64 ay, .int .i64 az, .slice (some ad285) aa.length aP, .slice aQ an.length aR, .slice aK aj.length aL] 28 (0, 0)) (by refine kB ?_; exact ab.out) hb); have aU := A_.mk (F_ (g := aH) (o := .cells #[.int .i64 0, .int .i64 0, .int .i64 0, .int .i64 0] 32 (0, 0)) (by refine kB ?_; exact ad.out) hb); have aV := A_.mk (F_ (g := af) (o := .cells #[.int .i64 ((Z_ aa a1).f0), .int .i64 ((Z_ aa a1).f1.f0), .int .i64 ((Z_ aa a1).f1.f1), .int .i64 ((Z_ aa a1).f1.f2), .int .i64 ((Z_ aa a1).f1.f3), .int .i64 ((Z_ aa a1).f2.f0), .int .i64 ((Z_ aa a1).f2.f1), .int .i64 ((Z_ aa a1).f2.f2)] 54 (0, 0)) (by refine kB ?_; exact ac.out) hb); have aZ := A_.mk (E_ (by exact lB HB.out) hb); clear ab; clear ad; clear ac; clear HB; have ab := aT; have ad := aU; have ac := aV; have HB := aZ; clear aT aU aV aZ; (try clear hb); (try clear gW); (try clear hk); (try clear hi); have hL : ej.cell? ⟨af, 0, none⟩ = some (.int .i64 ((Z_ aa a1).f0)) := (D_ ac.out 0).trans rfl; have hM : ej.cell? ⟨af, 1, none⟩ = some (.int .i64 ((Z_ aa a1).f1.f0)) := (D_ ac.out 1).trans rfl; have hN : ej.cell? ⟨af, 2, none⟩ = some (.int .i64 ((Z_ aa a1).f1.f1)) := (D_ ac.out 2).trans rfl; have hO : ej.cell? ⟨af, 3, none⟩ = some (.int .i64 ((Z_ aa a1).f1.f2)) := (D_ ac.out 3).trans rfl; have hP : ej.cell? ⟨af, 4, none⟩ = some (.int .i64 ((Z_ aa a1).f1.f3)) := (D_ ac.out 4).trans rfl; have hQ : ej.cell? ⟨af, 5, none⟩ = some (.int .i64 ((Z_ aa a1).f2.f0)) := (D_ ac.out 5).trans rfl; have hR : ej.cell? ⟨af, 6, none⟩ = some (.int .i64 ((Z_ aa a1).f2.f1)) := (D_ ac.out 6).trans rfl; have hS : ej.cell? ⟨af, 7, none⟩ = some (.int .i64 ((Z_ aa a1).f2.f2)) := (D_ ac.out 7).trans rfl; have hT := B_ ac.out 0; have hU := B_ ac.out 1; have hV := B_ ac.out 2; have hW := B_ ac.out 3; have hX := B_ ac.out 4; have hY := B_ ac.out 5; have hZ := B_ ac.out 6; have h0 := B_ ac.out 7) | ((with_reducible refine P_ (f := 20) rfl ?_); refine R_ (some 84) rfl rfl Tryd.func20 (by kernel_rfl) rfl #[.int .i64 a3, .int .i64 ((Z_ aa a1).f1.f3)] rfl (by (try simp only [List.map_toArray, List.map_cons, List.map_nil]); first | done | rfl | (simp only [List.length_drop, List.length_take]; rfl)) ?_; (with_reducible refine (pochoirref32_cut.calls a3 ((Z_ aa a1).f1.f3) bA aM _ A57.out).mono ?_); rintro e lo ⟨rfl, hb⟩; refine ⟨_, rfl, ?_⟩; have aT := A_.mk (F_ (g := ae) (o := .cells #[.int .i64 aq, .int .i64 ar, .int .i64 au, .int .i64 av, .int .i64 aw, .int .i64 ax, .int .i64 ay, .int .i64 az, .slice (some ad285) aa.length aP, .slice aQ an.length aR, .slice aK aj.length aL] 28 (0, 0)) (by refine kB ?_; exact ab.out) hb); have aU := A_.mk (F_ (g := aH) (o := .cells #[.int .i64 0, .int .i64 0, .int .i64 0, .int .i64 0] 32 (0, 0)) (by refine kB ?_; exact ad.out) hb); have aV := A_.mk (F_ (g := af) (o := .cells #[.int .i64 ((Z_ aa a1).f0), .int .i64 ((Z_ aa a1).f1.f0), .int .i64 ((Z_ aa a1).f1.f1), .int .i64 ((Z_ aa a1).f1.f2), .int .i64 ((Z_ aa a1).f1.f3), .int .i64 ((Z_ aa a1).f2.f0), .int .i64 ((Z_ aa a1).f2.f1), .int .i64 ((Z_ aa a1).f2.f2)] 54 (0, 0)) (by refine kB ?_; exact ac.out) hb); have aZ := A_.mk (E_ (by exact lB HB.out) hb); clear ab; clear ad; clear ac; clear HB; have ab := aT; have ad := aU; have ac := aV; have HB := aZ; clear aT aU aV aZ; (try clear hb); (try clear gW); (try clear hk); (try clear hi)) | ((with_reducible refine O_ (N := 15) rfl ?_); (try (refine Q_ (by rfl) ?_; dsimp only)); refine N_ ?hg (N := 15) ?hd (cs := #[.int .i64 0, .int .i64 0, .int .i64 0, .int .i64 0]) (t := 32) ?hr ?_; (case hd => rfl); (case hg => rfl); (case hr => first | (go_simp; done) | (go_simp; rfl)); intro aO hg hh hbox hb; have aT := A_.mk (F_ (g := ae) (o := .cells #[.int .i64 aq, .int .i64 ar, .int .i64 au, .int .i64 av, .int .i64 aw, .int .i64 ax, .int .i64 ay, .int .i64 az, .slice (some ad285) aa.length aP, .slice aQ an.length aR, .slice aK aj.length aL] 28 (0, 0)) (by refine kB ?_; exact ab.out) hb); have aU := A_.mk (F_ (g := aH) (o := .cells #[.int .i64 0, .int .i64 0, .int .i64 0, .int .i64 0] 32 (0, 0)) (by refine kB ?_; exact ad.out) hb); have aV := A_.mk (F_ (g := af) (o := .cells #[.int .i64 ((Z_ aa a1).f0), .int .i64 ((Z_ aa a1).f1.f0), .int .i64 ((Z_ aa a1).f1.f1), .int .i64 ((Z_ aa a1).f1.f2), .int .i64 ((Z_ aa a1).f1.f3), .int .i64 ((Z_ aa a1).f2.f0), .int .i64 ((Z_ aa a1).f2.f1), .int .i64 ((Z_ aa a1).f2.f2)] 54 (0, 0)) (by refine kB ?_; exact ac.out) hb); have aZ := A_.mk (E_ (by exact lB HB.out) hb); have bf := A_.mk (hbox); have bs := A_.mk ((by rw [hg]; exact (G_ (by exact lB HB.out)) : w.heap.size ≤ aO)); have bM := A_.mk ((by rw [hg]; exact (G_ (by exact lB HB.out)) : w.heap.size ≤ aO)); have eg := A_.mk ((by rw [hg]; exact Nat.ne_of_lt (M_ (g := ae) (o := .cells #[.int .i64 aq, .int .i64 ar, .int .i64 au, .int .i64 av, .int .i64 aw, .int .i64 ax, .int .i64 ay, .int .i64 az, .slice (some ad285) aa.length aP, .slice aQ an.length aR, .slice aK aj.length aL] 28 (0, 0)) (by refine kB ?_; exact ab.out)) : ae ≠ aO)); have eh := A_.mk ((by rw [hg]; exact Nat.ne_of_gt (M_ (g := ae) (o := .cells #[.int .i64 aq, .int .i64 ar, .int .i64 au, .int .i64 av, .int .i64 aw, .int .i64 ax, .int .i64 ay, .int .i64 az, .slice (some ad285) aa.length aP, .slice aQ an.length aR, .slice aK aj.length aL] 28 (0, 0)) (by refine kB ?_; exact ab.out)) : aO ≠ ae)); have ei := A_.mk ((by rw [hg]; exact Nat.ne_of_lt (M_ (g := aH) (o := .cells #[.int .i64 0, .int .i64 0, .int .i64 0, .int .i64 0] 32 (0, 0)) (by refine kB ?_; exact ad.out)) : aH ≠ aO)); have ez := A_.mk ((by rw [hg]; exact Nat.ne_of_gt (M_ (g := aH) (o := .cells #[.int .i64 0, .int .i64 0, .int .i64 0, .int .i64 0] 32 (0, 0)) (by refine kB ?_; exact ad.out)) : aO ≠ aH)); have eA := A_.mk ((by rw [hg]; exact Nat.ne_of_lt (M_ (g := af) (o := .cells #[.int .i64 ((Z_ aa a1).f0), .int .i64 ((Z_ aa a1).f1.f0), .int .i64 ((Z_ aa a1).f1.f1), .int .i64 ((Z_ aa a1).f1.f2), .int .i64 ((Z_ aa a1).f1.f3), .int .i64 ((Z_ aa a1).f2.f0), .int .i64 ((Z_ aa a1).f2.f1), .int .i64 ((Z_ aa a1).f2.f2)] 54 (0, 0)) (by refine kB ?_; exact ac.out)) : af ≠ aO)); have eB := A_.mk ((by rw [hg]; exact Nat.ne_of_gt (M_ (g := af) (o := .cells #[.int .i64 ((Z_ aa a1).f0), .int .i64 ((Z_ aa a1).f1.f0), .int .i64 ((Z_ aa a1).f1.f1), .int .i64 ((Z_ aa a1).f1.f2), .int .i64 ((Z_ aa a1).f1.f3), .int .i64 ((Z_ aa a1).f2.f0), .int .i64 ((Z_ aa a1).f2.f1), .int .i64 ((Z_ aa a1).f2.f2)] 54 (0, 0)) (by refine kB ?_; exact ac.out)) : aO ≠ af)); clear ab; clear ad; clear ac; clear HB; have ab := aT; have ad := aU; have ac := aV; have HB := aZ; have ag := bf; have kW := bs; have be := bM; have bb := eg; have cg := eh; have bc := ei; have ch := ez; have bd := eA; have ci := eB; clear aT aU aV aZ bf bs bM eg eh ei ez eA eB; clear hb hbox hg; have kX := cg.out; have kY := bb.out; have kZ := ch.out; have k0 := bc.out; have k1 := ci.out; have k2 := bd.out; have h1 : hh.cell? ⟨aO, 0, none⟩ = some (.int .i64 0) := (D_ ag.out 0).trans rfl; have h2 : hh.cell? ⟨aO, 1, none⟩ = some (.int .i64 0) := (D_ ag.out 1).trans rfl; have h3 : hh.cell? ⟨aO, 2, none⟩ = some (.int .i64 0) := (D_ ag.out 2).trans rfl; have h4 : hh.cell? ⟨aO, 3, none⟩ = some (.int .i64 0) := (D_ ag.out 3).trans rfl; have h5 := B_ ag.out 0; have h6 := B_ ag.out 1; have h7 := B_ ag.out 2; have h8 := B_ ag.out 3))
         go_loopg [16] ey (fun kq v16 w' => ∃ (aG : Int) (aB : Int) (aC : Int) (aE : Int) (aF : Int), v16 = .int .i64 aG ∧ A_ (pochoirref32_At.l0 kq bx aN bA aM aG aq ar au av aw ax ay az aa an aj ((Z_ aa a1).f0) ((Z_ aa a1).f1.f0) ((Z_ aa a1).f1.f1) ((Z_ aa a1).f1.f2) ((Z_ aa a1).f1.f3) ((Z_ aa a1).f2.f0) ((Z_ aa a1).f2.f1) ((Z_ aa a1).f2.f2) aB aC aE aF = some (r1, r2, r3, r4, r5)) ∧ A_ (kq ≤ ey) ∧ A_ (w'.heap[ae]? = some (.cells #[.int .i64 aq, .int .i64 ar, .int .i64 au, .int .i64 av, .int .i64 aw, .int .i64 ax, .int .i64 ay, .int .i64 az, (.slice (some ad285) aa.length aP), (.slice aQ an.length aR), (.slice aK aj.length aL)] 28 (0, 0))) ∧ A_ (w'.heap[aH]? = some (.cells #[.int .i64 0, .int .i64 0, .int .i64 0, .int .i64 0] 32 (0, 0))) ∧ A_ (w'.heap[af]? = some (.cells #[.int .i64 ((Z_ aa a1).f0), .int .i64 ((Z_ aa a1).f1.f0), .int .i64 ((Z_ aa a1).f1.f1), .int .i64 ((Z_ aa a1).f1.f2), .int .i64 ((Z_ aa a1).f1.f3), .int .i64 ((Z_ aa a1).f2.f0), .int .i64 ((Z_ aa a1).f2.f1), .int .i64 ((Z_ aa a1).f2.f2)] 54 (0, 0))) ∧ A_ (w'.heap[aO]? = some (.cells #[.int .i64 aB, .int .i64 aC, .int .i64 aE, .int .i64 aF] 32 (0, 0))) ∧ A_ (Below w.heap.size w w'))
         case atStart => exact ⟨(0), (0), (0), (0), (0), (by first | rfl | (simp; done) | (simp [*]; done)), H', ⟨Nat.le_refl _⟩, ⟨by refine kB ?_; refine J_ ?_ bb.out _; refine kB ?_; refine J_ ?_ bb.out _; refine kB ?_; refine J_ ?_ bb.out _; refine kB ?_; refine J_ ?_ bb.out _; refine kB ?_; exact ab.out⟩, ⟨by refine kB ?_; refine J_ ?_ bc.out _; refine kB ?_; refine J_ ?_ bc.out _; refine kB ?_; refine J_ ?_ bc.out _; refine kB ?_; refine J_ ?_ bc.out _; refine kB ?_; exact ad.out⟩, ⟨by refine kB ?_; refine J_ ?_ bd.out _; refine kB ?_; refine J_ ?_ bd.out _; refine kB ?_; refine J_ ?_ bd.out _; refine kB ?_; refine J_ ?_ bd.out _; refine kB ?_; exact ac.out⟩, ⟨by refine kB ?_; refine L_ (cs := #[.int .i64 0, .int .i64 0, .int .i64 0, .int .i64 0]) ?_ 3 _ rfl; refine kB ?_; refine L_ (cs := #[.int .i64 0, .int .i64 0, .int .i64 0, .int .i64 0]) ?_ 2 _ rfl; refine kB ?_; refine L_ (cs := #[.int .i64 0, .int .i64 0, .int .i64 0, .int .i64 0]) ?_ 1 _ rfl; refine kB ?_; refine L_ (cs := #[.int .i64 0, .int .i64 0, .int .i64 0, .int .i64 0]) ?_ 0 _ rfl; refine kB ?_; exact ag.out⟩, ⟨by exact lB HB.out⟩⟩
         case round =>
          clear H'
          try clear c1
          try clear c2
          try clear p2
          try clear q2
          try clear jK
          try clear c3
          try clear c4
          try clear c5
          try clear c6
          try clear p6
          try clear c9
          try clear c10
          try clear bN
          try clear c11
          try clear c14
          try clear c18
          try clear c20
          try clear c21
          try clear c22
          try clear c24
          try clear he
          try clear c25
          try clear hf
          try clear c27
          try clear p28
          try clear q28
          try clear iy
          try clear c30
          try clear c31
          try clear c33
          try clear b7
          try clear gN
          try clear c34
          try clear c35
          try clear c37
          try clear gO
          try clear c38
          try clear c39
          try clear c41
          try clear gP
          try clear c42
          try clear c43
          try clear c45
          try clear gQ
          try clear c46
          try clear c47
          try clear c49
          try clear c50
          try clear c52
          try clear c53
          try clear c54
          try clear c58
          try clear c59
          try clear p64
          try clear c65
          try clear c66
          try clear c67
          try clear cO
          try clear cP
          try clear cn
          try clear cQ
          try clear cR
          try clear cS
          try clear cT
          try clear cU
          try clear cV
          try clear cW
          try clear cX
          try clear df
          try clear dg
          try clear cp
          try clear dh
          try clear di
          try clear dj
          try clear dk
          try clear dl
          try clear dm
          try clear dn
          try clear dp
          try clear dB
          try clear dC
          try clear cr
          try clear dD
          try clear dE
          try clear dF
          try clear dG
          try clear dH
          try clear dI
          try clear dJ
          try clear dK
          try clear dV
          try clear dW
          try clear cu
          try clear dX
          try clear dY
          try clear dZ
          try clear d0
          try clear d1
          try clear d2
          try clear d3
          try clear d4
          try clear eI
          try clear eJ
          try clear eK
          try clear eL
          try clear eQ
          try clear eR
          try clear ew
          try clear eS
          try clear eT
          try clear eU
          try clear eV
          try clear eW
          try clear eX
          try clear eY
          try clear eZ
          try clear fa
          try clear fb
          try clear fc
          try clear fd
          try clear fe
          try clear ff
          try clear fg
          try clear fh
          try clear fr
          try clear fs
          try clear ft
          try clear fu
          try clear fv
          try clear fw
          try clear fx
          try clear fy
          try clear fH
          try clear fI
          try clear fJ
          try clear fK
          try clear fL
          try clear fM
          try clear fN
          try clear fO
          try clear fX
          try clear fY
          try clear fZ
          try clear f0
          try clear f1
          try clear f2
          try clear f3
          try clear f4
          try clear gd
          try clear ge
          try clear gf
          try clear gg
          try clear gh
          try clear gi
          try clear gj
          try clear gl
          try clear gv
          try clear gw
          try clear gx
          try clear gy
          try clear gz
          try clear gA
          try clear gB
          try clear gC
          try clear hj
          try clear hl
          try clear hm
          try clear hn
          try clear hu
          try clear hv
          try clear hw
          try clear hx
          try clear hy
          try clear hz
          try clear hA
          try clear hB
          try clear hL
          try clear hM
          try clear hN
          try clear hO
          try clear hP
          try clear hQ
          try clear hR
          try clear hS
          try clear h1
          try clear h2
          try clear h3
          try clear h4
          try clear cY
          try clear cZ
          try clear co
          try clear c0
          try clear c7
          try clear c8
          try clear da
          try clear db
          try clear dc
          try clear dd
          try clear de
          try clear dq
          try clear dr
          try clear cq
          try clear dt
          try clear du
          try clear dv
          try clear dw
          try clear dx
          try clear dy
          try clear dz
          try clear dA
          try clear dL
          try clear dM
          try clear ct
          try clear dN
          try clear dO
          try clear dP
          try clear dQ
          try clear dR
          try clear dS
          try clear dT
          try clear dU
          try clear d5
          try clear d6
          try clear cv
          try clear d7
          try clear d8
          try clear d9
          try clear ea
          try clear eb
          try clear ec
          try clear ed
          try clear ee
          try clear eM
          try clear eN
          try clear eO
          try clear eP
          try clear e0
          try clear e1
          try clear ex
          try clear e2
          try clear e3
          try clear e4
          try clear e5
          try clear e6
          try clear e7
          try clear e8
          try clear e9
          try clear fi
          try clear fj
          try clear fk
          try clear fl
          try clear fm
          try clear fo
          try clear fp
          try clear fq
          try clear fz
          try clear fA
          try clear fB
          try clear fC
          try clear fD
          try clear fE
          try clear fF
          try clear fG
          try clear fP
          try clear fQ
          try clear fR
          try clear fS
          try clear fT
          try clear fU
          try clear fV
          try clear fW
          try clear f5
          try clear f6
          try clear f7
          try clear f8
          try clear f9
          try clear ga
          try clear gb
          try clear gc
          try clear gm
          try clear gn
          try clear gp
          try clear gq
          try clear gr
          try clear gs
          try clear gt
          try clear gu
          try clear gD
          try clear gE
          try clear gF
          try clear gG
          try clear gH
          try clear gI
          try clear gJ
          try clear gK
          try clear ho
          try clear hq
          try clear hs
          try clear ht
          try clear hC
          try clear hD
          try clear hE
          try clear hF
          try clear hG
          try clear hH
          try clear hI
          try clear hJ
          try clear hT
          try clear hU
          try clear hV
          try clear hW
          try clear hX
          try clear hY
          try clear hZ
          try clear h0
          try clear h5
          try clear h6
          try clear h7
          try clear h8
          try clear bZ
          try clear b0
          try clear b1
          try clear b2
          try clear b3
          try clear b4
          try clear b5
          try clear b6
          try clear p2
          try clear p28
          try clear p285
          try clear p6
          try clear q2
          try clear q28
          try clear q285
          obtain ⟨aG, aB, aC, aE, aF, rfl, HA, HK3, ab, ad, ac, ag, HB⟩ := hrel
          cases gk with
          | zero => exact absurd HA.out (by simp [pochoirref32_At.l0])
          | succ k3 =>
           have H := HA.out
           clear HA
           simp only [pochoirref32_At.l0] at H
           by_cases c69 : aG < 4
           ·rw [if_pos c69] at H
            have ir : decide (aG < 4) = true := decide_eq_true c69
            clear c69
            obtain ⟨aA, cD⟩ : ∃ y_ : List Int, y_ = (([wrap64 (256 - aN), aN] : List Int)) := ⟨_, rfl⟩
            replace H : (if 0 ≤ (Int.tmod aG 2) then (if (Int.tmod aG 2) < (aA.length : Int) then ((some (([wrap64 (256 - aM), aM] : List Int) : List Int)).bind fun ap => (if 0 ≤ (wrap64 (Int.tdiv aG 2)) then (if (wrap64 (Int.tdiv aG 2)) < (ap.length : Int) then (if (wrap64 ((rd aA (Int.tmod aG 2)) * (rd ap (wrap64 (Int.tdiv aG 2))))) = 0 then (pochoirref32_At.l0 k3 bx aN bA aM (wrap64 (aG + 1)) aq ar au av aw ax ay az aa an aj ((Z_ aa a1).f0) ((Z_ aa a1).f1.f0) ((Z_ aa a1).f1.f1) ((Z_ aa a1).f1.f2) ((Z_ aa a1).f1.f3) ((Z_ aa a1).f2.f0) ((Z_ aa a1).f2.f1) ((Z_ aa a1).f2.f2) aB aC aE aF) else ((pochoirref30_Texel.f k3 aq ar au av aw ax ay az aa an aj ((Z_ aa a1).f2.f0) (wrap64 ((wrap64 (((Z_ aa a1).f2.f1) + bx)) + (Int.tmod aG 2))) (wrap64 ((wrap64 (((Z_ aa a1).f2.f2) + bA)) + (wrap64 (Int.tdiv aG 2))))).bind fun ba => (pochoirref32_At.l0 k3 bx aN bA aM (wrap64 (aG + 1)) aq ar au av aw ax ay az aa an aj ((Z_ aa a1).f0) ((Z_ aa a1).f1.f0) ((Z_ aa a1).f1.f1) ((Z_ aa a1).f1.f2) ((Z_ aa a1).f1.f3) ((Z_ aa a1).f2.f0) ((Z_ aa a1).f2.f1) ((Z_ aa a1).f2.f2) (wrap64 (aB + (wrap64 ((wrap64 ((rd aA (Int.tmod aG 2)) * (rd ap (wrap64 (Int.tdiv aG 2))))) * (wrap64 (ba.1)))))) (wrap64 (aC + (wrap64 ((wrap64 ((rd aA (Int.tmod aG 2)) * (rd ap (wrap64 (Int.tdiv aG 2))))) * (wrap64 (ba.2.1)))))) (wrap64 (aE + (wrap64 ((wrap64 ((rd aA (Int.tmod aG 2)) * (rd ap (wrap64 (Int.tdiv aG 2))))) * (wrap64 (ba.2.2.1)))))) (wrap64 (aF + (wrap64 ((wrap64 ((rd aA (Int.tmod aG 2)) * (rd ap (wrap64 (Int.tdiv aG 2))))) * (wrap64 (ba.2.2.2.1))))))))) else (none)) else (none))) else (none)) else (none)) = some (r1, r2, r3, r4, r5) := by first | (rw [cD]; with_reducible exact H) | (have H2_ := (Option.bind_some _ _).symm.trans H; rw [cD]; with_reducible exact H2_) | (have H2_ := (Option.bind_some _ _).symm.trans H; with_reducible exact H2_) | with_reducible exact H | (rw [cD]; exact H) | exact H
            have Ny292 := A_.mk cD
            clear cD
            obtain ⟨ao, gS⟩ : ∃ j_ : Int, (Int.tmod aG 2) = j_ := ⟨_, rfl⟩
            replace H : (if 0 ≤ (ao) then (if (ao) < (aA.length : Int) then ((some (([wrap64 (256 - aM), aM] : List Int) : List Int)).bind fun ap => (if 0 ≤ (wrap64 (Int.tdiv aG 2)) then (if (wrap64 (Int.tdiv aG 2)) < (ap.length : Int) then (if (wrap64 ((rd aA (ao)) * (rd ap (wrap64 (Int.tdiv aG 2))))) = 0 then (pochoirref32_At.l0 k3 bx aN bA aM (wrap64 (aG + 1)) aq ar au av aw ax ay az aa an aj ((Z_ aa a1).f0) ((Z_ aa a1).f1.f0) ((Z_ aa a1).f1.f1) ((Z_ aa a1).f1.f2) ((Z_ aa a1).f1.f3) ((Z_ aa a1).f2.f0) ((Z_ aa a1).f2.f1) ((Z_ aa a1).f2.f2) aB aC aE aF) else ((pochoirref30_Texel.f k3 aq ar au av aw ax ay az aa an aj ((Z_ aa a1).f2.f0) (wrap64 ((wrap64 (((Z_ aa a1).f2.f1) + bx)) + (ao))) (wrap64 ((wrap64 (((Z_ aa a1).f2.f2) + bA)) + (wrap64 (Int.tdiv aG 2))))).bind fun ba => (pochoirref32_At.l0 k3 bx aN bA aM (wrap64 (aG + 1)) aq ar au av aw ax ay az aa an aj ((Z_ aa a1).f0) ((Z_ aa a1).f1.f0) ((Z_ aa a1).f1.f1) ((Z_ aa a1).f1.f2) ((Z_ aa a1).f1.f3) ((Z_ aa a1).f2.f0) ((Z_ aa a1).f2.f1) ((Z_ aa a1).f2.f2) (wrap64 (aB + (wrap64 ((wrap64 ((rd aA (ao)) * (rd ap (wrap64 (Int.tdiv aG 2))))) * (wrap64 (ba.1)))))) (wrap64 (aC + (wrap64 ((wrap64 ((rd aA (ao)) * (rd ap (wrap64 (Int.tdiv aG 2))))) * (wrap64 (ba.2.1)))))) (wrap64 (aE + (wrap64 ((wrap64 ((rd aA (ao)) * (rd ap (wrap64 (Int.tdiv aG 2))))) * (wrap64 (ba.2.2.1)))))) (wrap64 (aF + (wrap64 ((wrap64 ((rd aA (ao)) * (rd ap (wrap64 (Int.tdiv aG 2))))) * (wrap64 (ba.2.2.2.1))))))))) else (none)) else (none))) else (none)) else (none)) = some (r1, r2, r3, r4, r5) := by first | (rw [gS] at H; exact H) | (simp only [gS] at H ⊢; exact H)
            by_cases c71 : 0 ≤ (ao)
            ·rw [if_pos c71] at H
             have k4 : decide (0 ≤ (ao)) = true := decide_eq_true c71
             clear c71
             by_cases c72 : (ao) < (aA.length : Int)
             ·rw [if_pos c72] at H
              have k5 : decide ((ao) < (aA.length : Int)) = true := decide_eq_true c72
              clear c72
              obtain ⟨ap, cE⟩ : ∃ y_ : List Int, y_ = (([wrap64 (256 - aM), aM] : List Int)) := ⟨_, rfl⟩
              replace H : (if 0 ≤ (wrap64 (Int.tdiv aG 2)) then (if (wrap64 (Int.tdiv aG 2)) < (ap.length : Int) then (if (wrap64 ((rd aA (ao)) * (rd ap (wrap64 (Int.tdiv aG 2))))) = 0 then (pochoirref32_At.l0 k3 bx aN bA aM (wrap64 (aG + 1)) aq ar au av aw ax ay az aa an aj ((Z_ aa a1).f0) ((Z_ aa a1).f1.f0) ((Z_ aa a1).f1.f1) ((Z_ aa a1).f1.f2) ((Z_ aa a1).f1.f3) ((Z_ aa a1).f2.f0) ((Z_ aa a1).f2.f1) ((Z_ aa a1).f2.f2) aB aC aE aF) else ((pochoirref30_Texel.f k3 aq ar au av aw ax ay az aa an aj ((Z_ aa a1).f2.f0) (wrap64 ((wrap64 (((Z_ aa a1).f2.f1) + bx)) + (ao))) (wrap64 ((wrap64 (((Z_ aa a1).f2.f2) + bA)) + (wrap64 (Int.tdiv aG 2))))).bind fun ba => (pochoirref32_At.l0 k3 bx aN bA aM (wrap64 (aG + 1)) aq ar au av aw ax ay az aa an aj ((Z_ aa a1).f0) ((Z_ aa a1).f1.f0) ((Z_ aa a1).f1.f1) ((Z_ aa a1).f1.f2) ((Z_ aa a1).f1.f3) ((Z_ aa a1).f2.f0) ((Z_ aa a1).f2.f1) ((Z_ aa a1).f2.f2) (wrap64 (aB + (wrap64 ((wrap64 ((rd aA (ao)) * (rd ap (wrap64 (Int.tdiv aG 2))))) * (wrap64 (ba.1)))))) (wrap64 (aC + (wrap64 ((wrap64 ((rd aA (ao)) * (rd ap (wrap64 (Int.tdiv aG 2))))) * (wrap64 (ba.2.1)))))) (wrap64 (aE + (wrap64 ((wrap64 ((rd aA (ao)) * (rd ap (wrap64 (Int.tdiv aG 2))))) * (wrap64 (ba.2.2.1)))))) (wrap64 (aF + (wrap64 ((wrap64 ((rd aA (ao)) * (rd ap (wrap64 (Int.tdiv aG 2))))) * (wrap64 (ba.2.2.2.1))))))))) else (none)) else (none)) = some (r1, r2, r3, r4, r5) := by first | (rw [cE]; with_reducible exact H) | (have H2_ := (Option.bind_some _ _).symm.trans H; rw [cE]; with_reducible exact H2_) | (have H2_ := (Option.bind_some _ _).symm.trans H; with_reducible exact H2_) | with_reducible exact H | (rw [cE]; exact H) | exact H
              have Ny296 := A_.mk cE
              clear cE
              obtain ⟨aD, eo⟩ : ∃ j_ : Int, (wrap64 (Int.tdiv aG 2)) = j_ := ⟨_, rfl⟩
              replace H : (if 0 ≤ (aD) then (if (aD) < (ap.length : Int) then (if (wrap64 ((rd aA (ao)) * (rd ap (aD)))) = 0 then (pochoirref32_At.l0 k3 bx aN bA aM (wrap64 (aG + 1)) aq ar au av aw ax ay az aa an aj ((Z_ aa a1).f0) ((Z_ aa a1).f1.f0) ((Z_ aa a1).f1.f1) ((Z_ aa a1).f1.f2) ((Z_ aa a1).f1.f3) ((Z_ aa a1).f2.f0) ((Z_ aa a1).f2.f1) ((Z_ aa a1).f2.f2) aB aC aE aF) else ((pochoirref30_Texel.f k3 aq ar au av aw ax ay az aa an aj ((Z_ aa a1).f2.f0) (wrap64 ((wrap64 (((Z_ aa a1).f2.f1) + bx)) + (ao))) (wrap64 ((wrap64 (((Z_ aa a1).f2.f2) + bA)) + (aD)))).bind fun ba => (pochoirref32_At.l0 k3 bx aN bA aM (wrap64 (aG + 1)) aq ar au av aw ax ay az aa an aj ((Z_ aa a1).f0) ((Z_ aa a1).f1.f0) ((Z_ aa a1).f1.f1) ((Z_ aa a1).f1.f2) ((Z_ aa a1).f1.f3) ((Z_ aa a1).f2.f0) ((Z_ aa a1).f2.f1) ((Z_ aa a1).f2.f2) (wrap64 (aB + (wrap64 ((wrap64 ((rd aA (ao)) * (rd ap (aD)))) * (wrap64 (ba.1)))))) (wrap64 (aC + (wrap64 ((wrap64 ((rd aA (ao)) * (rd ap (aD)))) * (wrap64 (ba.2.1)))))) (wrap64 (aE + (wrap64 ((wrap64 ((rd aA (ao)) * (rd ap (aD)))) * (wrap64 (ba.2.2.1)))))) (wrap64 (aF + (wrap64 ((wrap64 ((rd aA (ao)) * (rd ap (aD)))) * (wrap64 (ba.2.2.2.1))))))))) else (none)) else (none)) = some (r1, r2, r3, r4, r5) := by first | (rw [eo] at H; exact H) | (simp only [eo] at H ⊢; exact H)
              have hji73w : (IntKind.i64.wrap (Int.tdiv aG 2)) = aD := (i64_w _).trans eo
              by_cases c74 : 0 ≤ (aD)
              ·rw [if_pos c74] at H
               have k6 : decide (0 ≤ (aD)) = true := decide_eq_true c74
               clear c74
               by_cases c75 : (aD) < (ap.length : Int)
               ·rw [if_pos c75] at H
                have k7 : decide ((aD) < (ap.length : Int)) = true := decide_eq_true c75
                clear c75
                by_cases c76 : (wrap64 ((rd aA (ao)) * (rd ap (aD)))) = 0
                ·rw [if_pos c76] at H
                 have it : ((wrap64 ((rd aA (ao)) * (rd ap (aD)))) == 0) = true := beq_iff_eq.mpr c76
                 have iu : ((wrap64 ((rd aA (ao)) * (rd ap (aD)))) != 0) = false := bne_eq_false_iff_eq.mpr c76
                 clear c76
                 have H' := A_.mk H
                 clear H
                 try go_wp2
                 have pi295 : (0 ≤ ((ao) : Int)) = True := eq_true (of_decide_eq_true (by first | (with_reducible assumption) | assumption))
                 have qi295 : ((ao) < (aA.length : Int)) = True := eq_true (of_decide_eq_true (by first | (with_reducible assumption) | assumption))
                 have pi299 : (0 ≤ ((aD) : Int)) = True := eq_true (of_decide_eq_true (by first | (with_reducible assumption) | assumption))
                 have qi299 : ((aD) < (ap.length : Int)) = True := eq_true (of_decide_eq_true (by first | (with_reducible assumption) | assumption))
                 have aT := A_.mk (Y_ ab.out)
                 have aU := A_.mk (Y_ ad.out)
                 have aV := A_.mk (Y_ ac.out)
                 have aZ := A_.mk (Y_ ag.out)
                 have bf := A_.mk (T_ HB.out)
                 clear ab
                 clear ad
                 clear ac
                 clear ag
                 clear HB
                 have ab := aT
                 have ad := aU
                 have ac := aV
                 have ag := aZ
                 have HB := bf
                 clear aT aU aV aZ bf
                 refine start_ (n := 18) (S := fun w' => True) (ds := []) #[false, false, false, false, false, false, false, false, false, false, false, false, false, false, false, false, false, false] (by kernel_rfl) rfl rfl trivial (fun hHeld => ?_); refine with_tabW pochoirref32_At.tab12 pochoirref32_At.bits12 (fun HT_ HW_ => ?_)
                 generalize wr.drew = lp at ab ad ac ag HB hHeld ⊢
                 refine pure_ (i := 0) (N := some 92) (v := ?_) (a' := ?_) #[true, false, false, false, false, false, false, false, false, false, false, false, false, false, false, false, false, false] rfl rfl (A1_ HT_.out (by kernel_rfl)) (fun _ _ _ h => h) (Or.inl ⟨by rfl, ?_⟩) ?_ ?_
                 rotate_left
                 ·intro w'
                  go_simp
                  with_reducible rfl
                 rotate_left
                 ·exact pA
                 refine pure_ (i := 2) (N := some 94) (v := ?_) (a' := ?_) #[true, false, true, false, false, false, false, false, false, false, false, false, false, false, false, false, false, false] rfl rfl (A1_ HT_.out (by kernel_rfl)) (fun _ _ _ h => h) (Or.inl ⟨by rfl, ?_⟩) ?_ ?_
                 rotate_left
                 ·intro w'
                  go_simp
                  with_reducible rfl
                 rotate_left
                 ·exact pA
                 refine pure_ (i := 4) (N := some 96) (v := ?_) (a' := ?_) #[true, false, true, false, true, false, false, false, false, false, false, false, false, false, false, false, false, false] rfl rfl (A1_ HT_.out (by kernel_rfl)) (fun _ _ _ h => h) (Or.inl ⟨by rfl, ?_⟩) ?_ ?_
                 rotate_left
                 ·intro w'
                  go_simp
                  with_reducible rfl
                 rotate_left
                 ·exact pA
                 refine pure_ (i := 8) (N := some 100) (v := ?_) (a' := ?_) #[true, false, true, false, true, false, false, false, true, false, false, false, false, false, false, false, false, false] rfl rfl (A1_ HT_.out (by kernel_rfl)) (fun _ _ _ h => h) (Or.inl ⟨by rfl, ?_⟩) ?_ ?_
                 rotate_left
                 ·intro w'
                  go_simp
                  with_reducible rfl
                 rotate_left
                 ·exact pA
                 refine pure_ (i := 10) (N := some 102) (v := ?_) (a' := ?_) #[true, false, true, false, true, false, false, false, true, false, true, false, false, false, false, false, false, false] rfl rfl (A1_ HT_.out (by kernel_rfl)) (fun _ _ _ h => h) (Or.inl ⟨by rfl, ?_⟩) ?_ ?_
                 rotate_left
                 ·intro w'
                  go_simp
                  with_reducible rfl
                 rotate_left
                 ·exact pA
                 refine pure_ (i := 12) (N := some 104) (v := ?_) (a' := ?_) #[true, false, true, false, true, false, false, false, true, false, true, false, true, false, false, false, false, false] rfl rfl (A1_ HT_.out (by kernel_rfl)) (fun _ _ _ h => h) (Or.inl ⟨by rfl, ?_⟩) ?_ ?_
                 rotate_left
                 ·intro w'
                  go_simp
                  with_reducible rfl
                 rotate_left
                 ·exact pA
                 refine inv_at [1, 3, 5, 6, 7, 9, 11, 13, 14, 15, 16, 17] (fun a0_ b a w' => ∃ (v293 : Value) (adz_v293 : Addr) (v297 : Value) (adz_v297 : Addr) (m6_ : Value) (m14_ : Value), a = putSel a0_ b [(1, 93, .int .i64 (wrap64 (256 - aN))), (3, 95, v293), (5, 97, .int .i64 ao), (6, 98, m6_), (7, 99, .int .i64 (rd aA (ao))), (9, 101, .int .i64 (wrap64 (256 - aM))), (11, 103, v297), (13, 105, .int .i64 aD), (14, 106, m14_), (15, 107, .int .i64 (rd ap (aD))), (16, 108, .int .i64 (wrap64 ((rd aA (ao)) * (rd ap (aD))))), (17, 17, .int .i64 (wrap64 ((rd aA (ao)) * (rd ap (aD)))))] ∧ (w'.heap[ae]? = some (.cells #[.int .i64 aq, .int .i64 ar, .int .i64 au, .int .i64 av, .int .i64 aw, .int .i64 ax, .int .i64 ay, .int .i64 az, .slice (some ad285) aa.length aP, .slice aQ an.length aR, .slice aK aj.length aL] 28 (0, 0))) ∧ (w'.heap[aH]? = some (.cells #[.int .i64 0, .int .i64 0, .int .i64 0, .int .i64 0] 32 (0, 0))) ∧ (w'.heap[af]? = some (.cells #[.int .i64 ((Z_ aa a1).f0), .int .i64 ((Z_ aa a1).f1.f0), .int .i64 ((Z_ aa a1).f1.f1), .int .i64 ((Z_ aa a1).f1.f2), .int .i64 ((Z_ aa a1).f1.f3), .int .i64 ((Z_ aa a1).f2.f0), .int .i64 ((Z_ aa a1).f2.f1), .int .i64 ((Z_ aa a1).f2.f2)] 54 (0, 0))) ∧ (w'.heap[aO]? = some (.cells #[.int .i64 aB, .int .i64 aC, .int .i64 aE, .int .i64 aF] 32 (0, 0))) ∧ (Below w.heap.size w w') ∧ (b 3 = true → Kd.R (Kd.int .i64) 3 w' w.heap.size (fun _ => True) v293 aA) ∧ (b 3 = true → ∃ c_, (v293 : Value) = .slice (some adz_v293) aA.length c_) ∧ (b 11 = true → Kd.R (Kd.int .i64) 3 w' w.heap.size (fun _ => True) v297 ap) ∧ (b 11 = true → ∃ c_, (v297 : Value) = .slice (some adz_v297) ap.length c_) ∧ (b 6 = true → (m6_ : Value) = .pointer (some (adz_v293.add ((ao)).toNat))) ∧ (b 14 = true → (m14_ : Value) = .pointer (some (adz_v297.add ((aD)).toNat)))) HT_.out HW_.out (by kernel_rfl) (by kernel_rfl) ?_ ?_ ?_
                 ·exact ⟨.bool false, ⟨0, 0, none⟩, .bool false, ⟨0, 0, none⟩, .bool false, .bool false, by simp only [putSel, Bool.false_eq_true, if_false], ab.out, ad.out, ac.out, ag.out, HB.out, fun h_ => absurd h_ (by decide), fun h_ => absurd h_ (by decide), fun h_ => absurd h_ (by decide), fun h_ => absurd h_ (by decide), fun h_ => absurd h_ (by decide), fun h_ => absurd h_ (by decide)⟩
                 ·skip
                  clear ab ad ac ag HB
                  refine steps_cons ?_ ?_
                  ·rintro b a w' ⟨v293, adz_v293, v297, adz_v297, m6_, m14_, ha, Q_BK282, Q_BK283, Q_BK286, Q_BK291, Q_HB, ak, Q_HA_HO294, al, Q_HA_HO298, Q_X6_, Q_X14_⟩ hb_ hon hoff
                   refine ⟨_, rfl, fun K hK => ?_⟩
                   have e92 : a.tmps[92]? = some (.int .i64 aN) := by rw [ha]; exact (putSel_off rfl).trans rfl
                   replace ha := A_.mk ha
                   have ab := A_.mk Q_BK282
                   have ad := A_.mk Q_BK283
                   have ac := A_.mk Q_BK286
                   have ag := A_.mk Q_BK291
                   have HB := A_.mk Q_HB
                   refine value_ (w1 := w') (v := .int .i64 (wrap64 (256 - aN))) (by rfl) rfl ?_ ?_
                   ·go_simp
                    (try simp only [i64_w])
                    try rfl
                   refine hK.out _ _ ⟨v293, adz_v293, v297, adz_v297, m6_, m14_, (by rw [ha.out]; exact putSel_upk 0 hb_ rfl rfl rfl), Q_BK282, Q_BK283, Q_BK286, Q_BK291, Q_HB, fun h0_ => absurd ((hoff 3 (by kernel_rfl)).symm.trans h0_) (by decide), fun h0_ => absurd ((hoff 3 (by kernel_rfl)).symm.trans h0_) (by decide), al, Q_HA_HO298, fun h0_ => absurd ((hoff 6 (by kernel_rfl)).symm.trans h0_) (by decide), Q_X14_⟩
                  refine steps_cons ?_ ?_
                  ·rintro b a w' ⟨v293, adz_v293, v297, adz_v297, m6_, m14_, ha, Q_BK282, Q_BK283, Q_BK286, Q_BK291, Q_HB, ak, Q_HA_HO294, al, Q_HA_HO298, Q_X6_, Q_X14_⟩ hb_ hon hoff
                   refine ⟨_, rfl, fun K hK => ?_⟩
                   have e93 : a.tmps[93]? = some (.int .i64 (wrap64 (256 - aN))) := by rw [ha]; exact putSel_on (e := (1, 93, .int .i64 (wrap64 (256 - aN)))) 0 rfl rfl (hon 1 (by kernel_rfl)) rfl
                   have e94 : a.tmps[94]? = some (.int .i64 aN) := by rw [ha]; exact (putSel_off rfl).trans rfl
                   replace ha := A_.mk ha
                   have ab := A_.mk Q_BK282
                   have ad := A_.mk Q_BK283
                   have ac := A_.mk Q_BK286
                   have ag := A_.mk Q_BK291
                   have HB := A_.mk Q_HB
                   refine Kd.R_lit_step (Kd.int .i64) _ 3 ?hg (N := 95) ?hd (xs := ([wrap64 (256 - aN), aN] : List Int)) (inner := [.int .i64 (wrap64 (256 - aN)), .int .i64 aN]) (ok := fun _ => True) (okp := fun _ => True) ?hr ?hp (fun _ hk => hk) trivial (Below.refl _ _) (Nat.le_refl _) (by simp) ?_; (case hd => rfl); (case hg => rfl); (case hr => first | (go_simp; done) | (go_simp; rfl)); (case hp => exact (Reps.one (show Kd.M (Kd.int .i64) _ _ _ (wrap64 (256 - aN)) [.int .i64 (wrap64 (256 - aN))] from rfl) (Reps.one (show Kd.M (Kd.int .i64) _ _ _ aN [.int .i64 aN] from rfl) (Reps.none _ _))))
                   intro v293 ij bC hb hg_ hnew_
                   clear hg_ hnew_
                   (first | rw [← Ny292.out] at bC | (simp only [Int.reduceToNat] at bC; rw [← Ny292.out] at bC))
                   have aT := A_.mk (Kd.R_lower bC (G_ (by exact lB HB.out)))
                   have aU := A_.mk (F_ (g := ae) (o := .cells #[.int .i64 aq, .int .i64 ar, .int .i64 au, .int .i64 av, .int .i64 aw, .int .i64 ax, .int .i64 ay, .int .i64 az, .slice (some ad285) aa.length aP, .slice aQ an.length aR, .slice aK aj.length aL] 28 (0, 0)) (by refine kB ?_; exact ab.out) hb)
                   have aV := A_.mk (F_ (g := aH) (o := .cells #[.int .i64 0, .int .i64 0, .int .i64 0, .int .i64 0] 32 (0, 0)) (by refine kB ?_; exact ad.out) hb)
                   have aZ := A_.mk (F_ (g := af) (o := .cells #[.int .i64 ((Z_ aa a1).f0), .int .i64 ((Z_ aa a1).f1.f0), .int .i64 ((Z_ aa a1).f1.f1), .int .i64 ((Z_ aa a1).f1.f2), .int .i64 ((Z_ aa a1).f1.f3), .int .i64 ((Z_ aa a1).f2.f0), .int .i64 ((Z_ aa a1).f2.f1), .int .i64 ((Z_ aa a1).f2.f2)] 54 (0, 0)) (by refine kB ?_; exact ac.out) hb)
                   have bf := A_.mk (F_ (g := aO) (o := .cells #[.int .i64 aB, .int .i64 aC, .int .i64 aE, .int .i64 aF] 32 (0, 0)) (by refine kB ?_; exact ag.out) hb)
                   have bs := A_.mk (E_ (by exact lB HB.out) hb)
                   have z_HO298 := fun (h0_ : b 11 = true) => (show Kd.R (Kd.int .i64) 3 ij w.heap.size (fun _ => True) v297 ap from by first | exact (Kd.R_elder' (by (with_reducible repeat (first | apply Kd.R_alloc | apply Kd.R_drewN | apply Kd.R_drew)); exact (al h0_)) (Kd.R_base bC) hb) | exact Kd.R_mono (Kd.R_elder' (by (with_reducible repeat (first | apply Kd.R_alloc | apply Kd.R_drewN | apply Kd.R_drew)); exact (al h0_)) (Kd.R_base bC) hb) (fun _ h_ => by first | trivial | exact h_ | exact h_.1))
                   clear ab
                   clear ad
                   clear ac
                   clear ag
                   clear HB
                   have aX := aT
                   have ab := aU
                   have ad := aV
                   have ac := aZ
                   have ag := bf
                   have HB := bs
                   clear aT aU aV aZ bf bs
                   clear hb bC
                   obtain ⟨iz, g2, eo80⟩ := Kd.R_slice aX.out
                   subst eo80
                   obtain ⟨ado80, fo80, _⟩ := Kd.at_int (Kd.R_reads' aX.out).2.2 0 (by decide) (by rw [Ny292.out]; simp)
                   cases fo80
                   refine hK.out _ _ ⟨.slice (some ado80) aA.length g2, ado80, v297, adz_v297, m6_, m14_, (by rw [ha.out]; exact putSel_upk 1 hb_ rfl rfl rfl), (by refine kB ?_; exact ab.out), (by refine kB ?_; exact ad.out), (by refine kB ?_; exact ac.out), (by refine kB ?_; exact ag.out), (by exact lB HB.out), fun _ => (by (with_reducible repeat (first | apply Kd.R_alloc | apply Kd.R_drewN | apply Kd.R_drew)); exact aX.out), fun _ => ⟨_, rfl⟩, z_HO298, Q_HA_HO298, fun h0_ => absurd ((hoff 6 (by kernel_rfl)).symm.trans h0_) (by decide), Q_X14_⟩
                  refine steps_cons ?_ ?_
                  ·rintro b a w' ⟨v293, adz_v293, v297, adz_v297, m6_, m14_, ha, Q_BK282, Q_BK283, Q_BK286, Q_BK291, Q_HB, ak, Q_HA_HO294, al, Q_HA_HO298, Q_X6_, Q_X14_⟩ hb_ hon hoff
                   refine ⟨_, rfl, fun K hK => ?_⟩
                   have e96 : a.tmps[96]? = some (.int .i64 aG) := by rw [ha]; exact (putSel_off rfl).trans rfl
                   replace ha := A_.mk ha
                   have ab := A_.mk Q_BK282
                   have ad := A_.mk Q_BK283
                   have ac := A_.mk Q_BK286
                   have ag := A_.mk Q_BK291
                   have HB := A_.mk Q_HB
                   refine value_ (w1 := w') (v := .int .i64 ao) (by rfl) rfl ?_ ?_
                   ·go_simp
                    (try simp only [i64_w])
                    try rfl
                   refine hK.out _ _ ⟨v293, adz_v293, v297, adz_v297, m6_, m14_, (by rw [ha.out]; exact putSel_upk 2 hb_ rfl rfl rfl), Q_BK282, Q_BK283, Q_BK286, Q_BK291, Q_HB, ak, Q_HA_HO294, al, Q_HA_HO298, fun h0_ => absurd ((hoff 6 (by kernel_rfl)).symm.trans h0_) (by decide), Q_X14_⟩
                  refine steps_cons ?_ ?_
                  ·rintro b a w' ⟨v293, adz_v293, v297, adz_v297, m6_, m14_, ha, Q_BK282, Q_BK283, Q_BK286, Q_BK291, Q_HB, ak, Q_HA_HO294, al, Q_HA_HO298, Q_X6_, Q_X14_⟩ hb_ hon hoff
                   refine ⟨_, rfl, fun K hK => ?_⟩
                   have e95 : a.tmps[95]? = some (v293) := by rw [ha]; exact putSel_on (e := (3, 95, v293)) 1 rfl rfl (hon 3 (by kernel_rfl)) rfl
                   have e97 : a.tmps[97]? = some (.int .i64 ao) := by rw [ha]; exact putSel_on (e := (5, 97, .int .i64 ao)) 2 rfl rfl (hon 5 (by kernel_rfl)) rfl
                   replace ha := A_.mk ha
                   have ab := A_.mk Q_BK282
                   have ad := A_.mk Q_BK283
                   have ac := A_.mk Q_BK286
                   have ag := A_.mk Q_BK291
                   have HB := A_.mk Q_HB
                   have aX := A_.mk (ak (hon 3 (by kernel_rfl)))
                   have HA_HO294 := A_.mk (Q_HA_HO294 (hon 3 (by kernel_rfl)))
                   obtain ⟨c_, hv_⟩ := HA_HO294.out
                   rw [hv_] at e95
                   refine value_ (w1 := w') (v := .pointer (some (adz_v293.add ((ao)).toNat))) (by rfl) rfl ?_ ?_
                   ·go_simp
                    (try simp only [i64_w])
                    try rfl
                   refine hK.out _ _ ⟨v293, adz_v293, v297, adz_v297, (.pointer (some (adz_v293.add ((ao)).toNat))), m14_, (by rw [ha.out]; exact putSel_upk 3 hb_ rfl rfl rfl), Q_BK282, Q_BK283, Q_BK286, Q_BK291, Q_HB, ak, Q_HA_HO294, al, Q_HA_HO298, fun _ => rfl, Q_X14_⟩
                  refine steps_cons ?_ ?_
                  ·rintro b a w' ⟨v293, adz_v293, v297, adz_v297, m6_, m14_, ha, Q_BK282, Q_BK283, Q_BK286, Q_BK291, Q_HB, ak, Q_HA_HO294, al, Q_HA_HO298, Q_X6_, Q_X14_⟩ hb_ hon hoff
                   refine ⟨_, rfl, fun K hK => ?_⟩
                   have e98 : a.tmps[98]? = some (m6_) := by rw [ha]; exact putSel_on (e := (6, 98, m6_)) 3 rfl rfl (hon 6 (by kernel_rfl)) rfl
                   rw [Q_X6_ (hon 6 (by kernel_rfl))] at e98
                   replace ha := A_.mk ha
                   have ab := A_.mk Q_BK282
                   have ad := A_.mk Q_BK283
                   have ac := A_.mk Q_BK286
                   have ag := A_.mk Q_BK291
                   have HB := A_.mk Q_HB
                   have aX := A_.mk (ak (hon 3 (by kernel_rfl)))
                   have HA_HO294 := A_.mk (Q_HA_HO294 (hon 3 (by kernel_rfl)))
                   obtain ⟨c_, hv_⟩ := HA_HO294.out
                   have hF_ := aX.out
                   rw [hv_] at hF_
                   obtain ⟨ad_, ea_, hx_⟩ := Kd.at_int (Kd.R_reads' hF_).2.2 (ao) (of_eq_true pi295) (of_eq_true qi295)
                   cases ea_
                   refine value_ (w1 := w') (v := .int .i64 (rd aA (ao))) (by rfl) rfl ?_ ?_
                   ·go_simp
                    (try simp only [i64_w])
                    try rfl
                   refine hK.out _ _ ⟨v293, adz_v293, v297, adz_v297, m6_, m14_, (by rw [ha.out]; exact putSel_upk 4 hb_ rfl rfl rfl), Q_BK282, Q_BK283, Q_BK286, Q_BK291, Q_HB, ak, Q_HA_HO294, al, Q_HA_HO298, Q_X6_, Q_X14_⟩
                  refine steps_cons ?_ ?_
                  ·rintro b a w' ⟨v293, adz_v293, v297, adz_v297, m6_, m14_, ha, Q_BK282, Q_BK283, Q_BK286, Q_BK291, Q_HB, ak, Q_HA_HO294, al, Q_HA_HO298, Q_X6_, Q_X14_⟩ hb_ hon hoff
                   refine ⟨_, rfl, fun K hK => ?_⟩
                   have e100 : a.tmps[100]? = some (.int .i64 aM) := by rw [ha]; exact (putSel_off rfl).trans rfl
                   replace ha := A_.mk ha
                   have ab := A_.mk Q_BK282
                   have ad := A_.mk Q_BK283
                   have ac := A_.mk Q_BK286
                   have ag := A_.mk Q_BK291
                   have HB := A_.mk Q_HB
                   refine value_ (w1 := w') (v := .int .i64 (wrap64 (256 - aM))) (by rfl) rfl ?_ ?_
                   ·go_simp
                    (try simp only [i64_w])
                    try rfl
                   refine hK.out _ _ ⟨v293, adz_v293, v297, adz_v297, m6_, m14_, (by rw [ha.out]; exact putSel_upk 5 hb_ rfl rfl rfl), Q_BK282, Q_BK283, Q_BK286, Q_BK291, Q_HB, ak, Q_HA_HO294, fun h0_ => absurd ((hoff 11 (by kernel_rfl)).symm.trans h0_) (by decide), fun h0_ => absurd ((hoff 11 (by kernel_rfl)).symm.trans h0_) (by decide), Q_X6_, fun h0_ => absurd ((hoff 14 (by kernel_rfl)).symm.trans h0_) (by decide)⟩
                  refine steps_cons ?_ ?_
                  ·rintro b a w' ⟨v293, adz_v293, v297, adz_v297, m6_, m14_, ha, Q_BK282, Q_BK283, Q_BK286, Q_BK291, Q_HB, ak, Q_HA_HO294, al, Q_HA_HO298, Q_X6_, Q_X14_⟩ hb_ hon hoff
                   refine ⟨_, rfl, fun K hK => ?_⟩
                   have e101 : a.tmps[101]? = some (.int .i64 (wrap64 (256 - aM))) := by rw [ha]; exact putSel_on (e := (9, 101, .int .i64 (wrap64 (256 - aM)))) 5 rfl rfl (hon 9 (by kernel_rfl)) rfl
                   have e102 : a.tmps[102]? = some (.int .i64 aM) := by rw [ha]; exact (putSel_off rfl).trans rfl
                   replace ha := A_.mk ha
                   have ab := A_.mk Q_BK282
                   have ad := A_.mk Q_BK283
                   have ac := A_.mk Q_BK286
                   have ag := A_.mk Q_BK291
                   have HB := A_.mk Q_HB
                   refine Kd.R_lit_step (Kd.int .i64) _ 3 ?hg (N := 103) ?hd (xs := ([wrap64 (256 - aM), aM] : List Int)) (inner := [.int .i64 (wrap64 (256 - aM)), .int .i64 aM]) (ok := fun _ => True) (okp := fun _ => True) ?hr ?hp (fun _ hk => hk) trivial (Below.refl _ _) (Nat.le_refl _) (by simp) ?_; (case hd => rfl); (case hg => rfl); (case hr => first | (go_simp; done) | (go_simp; rfl)); (case hp => exact (Reps.one (show Kd.M (Kd.int .i64) _ _ _ (wrap64 (256 - aM)) [.int .i64 (wrap64 (256 - aM))] from rfl) (Reps.one (show Kd.M (Kd.int .i64) _ _ _ aM [.int .i64 aM] from rfl) (Reps.none _ _))))
                   intro v297 ij bC hb hg_ hnew_
                   clear hg_ hnew_
                   (first | rw [← Ny296.out] at bC | (simp only [Int.reduceToNat] at bC; rw [← Ny296.out] at bC))
                   have aT := A_.mk (Kd.R_lower bC (G_ (by exact lB HB.out)))
                   have aU := A_.mk (F_ (g := ae) (o := .cells #[.int .i64 aq, .int .i64 ar, .int .i64 au, .int .i64 av, .int .i64 aw, .int .i64 ax, .int .i64 ay, .int .i64 az, .slice (some ad285) aa.length aP, .slice aQ an.length aR, .slice aK aj.length aL] 28 (0, 0)) (by refine kB ?_; exact ab.out) hb)
                   have aV := A_.mk (F_ (g := aH) (o := .cells #[.int .i64 0, .int .i64 0, .int .i64 0, .int .i64 0] 32 (0, 0)) (by refine kB ?_; exact ad.out) hb)
                   have aZ := A_.mk (F_ (g := af) (o := .cells #[.int .i64 ((Z_ aa a1).f0), .int .i64 ((Z_ aa a1).f1.f0), .int .i64 ((Z_ aa a1).f1.f1), .int .i64 ((Z_ aa a1).f1.f2), .int .i64 ((Z_ aa a1).f1.f3), .int .i64 ((Z_ aa a1).f2.f0), .int .i64 ((Z_ aa a1).f2.f1), .int .i64 ((Z_ aa a1).f2.f2)] 54 (0, 0)) (by refine kB ?_; exact ac.out) hb)
                   have bf := A_.mk (F_ (g := aO) (o := .cells #[.int .i64 aB, .int .i64 aC, .int .i64 aE, .int .i64 aF] 32 (0, 0)) (by refine kB ?_; exact ag.out) hb)
                   have bs := A_.mk (E_ (by exact lB HB.out) hb)
                   have z_HO294 := fun (h0_ : b 3 = true) => (show Kd.R (Kd.int .i64) 3 ij w.heap.size (fun _ => True) v293 aA from by first | exact (Kd.R_elder' (by (with_reducible repeat (first | apply Kd.R_alloc | apply Kd.R_drewN | apply Kd.R_drew)); exact (ak h0_)) (Kd.R_base bC) hb) | exact Kd.R_mono (Kd.R_elder' (by (with_reducible repeat (first | apply Kd.R_alloc | apply Kd.R_drewN | apply Kd.R_drew)); exact (ak h0_)) (Kd.R_base bC) hb) (fun _ h_ => by first | trivial | exact h_ | exact h_.1))
                   clear ab
                   clear ad
                   clear ac
                   clear ag
                   clear HB
                   have aY := aT
                   have ab := aU
                   have ad := aV
                   have ac := aZ
                   have ag := bf
                   have HB := bs
                   clear aT aU aV aZ bf bs
                   clear hb bC
                   obtain ⟨iz, g2, eo80⟩ := Kd.R_slice aY.out
                   subst eo80
                   obtain ⟨ado80, fo80, _⟩ := Kd.at_int (Kd.R_reads' aY.out).2.2 0 (by decide) (by rw [Ny296.out]; simp)
                   cases fo80
                   refine hK.out _ _ ⟨v293, adz_v293, .slice (some ado80) ap.length g2, ado80, m6_, m14_, (by rw [ha.out]; exact putSel_upk 6 hb_ rfl rfl rfl), (by refine kB ?_; exact ab.out), (by refine kB ?_; exact ad.out), (by refine kB ?_; exact ac.out), (by refine kB ?_; exact ag.out), (by exact lB HB.out), z_HO294, Q_HA_HO294, fun _ => (by (with_reducible repeat (first | apply Kd.R_alloc | apply Kd.R_drewN | apply Kd.R_drew)); exact aY.out), fun _ => ⟨_, rfl⟩, Q_X6_, fun h0_ => absurd ((hoff 14 (by kernel_rfl)).symm.trans h0_) (by decide)⟩
                  refine steps_cons ?_ ?_
                  ·rintro b a w' ⟨v293, adz_v293, v297, adz_v297, m6_, m14_, ha, Q_BK282, Q_BK283, Q_BK286, Q_BK291, Q_HB, ak, Q_HA_HO294, al, Q_HA_HO298, Q_X6_, Q_X14_⟩ hb_ hon hoff
                   refine ⟨_, rfl, fun K hK => ?_⟩
                   have e104 : a.tmps[104]? = some (.int .i64 aG) := by rw [ha]; exact (putSel_off rfl).trans rfl
                   replace ha := A_.mk ha
                   have ab := A_.mk Q_BK282
                   have ad := A_.mk Q_BK283
                   have ac := A_.mk Q_BK286
                   have ag := A_.mk Q_BK291
                   have HB := A_.mk Q_HB
                   refine value_ (w1 := w') (v := .int .i64 aD) (by rfl) rfl ?_ ?_
                   ·go_simp
                    (try simp only [i64_w])
                    try rfl
                   refine hK.out _ _ ⟨v293, adz_v293, v297, adz_v297, m6_, m14_, (by rw [ha.out]; exact putSel_upk 7 hb_ rfl rfl rfl), Q_BK282, Q_BK283, Q_BK286, Q_BK291, Q_HB, ak, Q_HA_HO294, al, Q_HA_HO298, Q_X6_, fun h0_ => absurd ((hoff 14 (by kernel_rfl)).symm.trans h0_) (by decide)⟩
                  refine steps_cons ?_ ?_
                  ·rintro b a w' ⟨v293, adz_v293, v297, adz_v297, m6_, m14_, ha, Q_BK282, Q_BK283, Q_BK286, Q_BK291, Q_HB, ak, Q_HA_HO294, al, Q_HA_HO298, Q_X6_, Q_X14_⟩ hb_ hon hoff
                   refine ⟨_, rfl, fun K hK => ?_⟩
                   have e103 : a.tmps[103]? = some (v297) := by rw [ha]; exact putSel_on (e := (11, 103, v297)) 6 rfl rfl (hon 11 (by kernel_rfl)) rfl
                   have e105 : a.tmps[105]? = some (.int .i64 aD) := by rw [ha]; exact putSel_on (e := (13, 105, .int .i64 aD)) 7 rfl rfl (hon 13 (by kernel_rfl)) rfl
                   replace ha := A_.mk ha
                   have ab := A_.mk Q_BK282
                   have ad := A_.mk Q_BK283
                   have ac := A_.mk Q_BK286
                   have ag := A_.mk Q_BK291
                   have HB := A_.mk Q_HB
                   have aY := A_.mk (al (hon 11 (by kernel_rfl)))
                   have HA_HO298 := A_.mk (Q_HA_HO298 (hon 11 (by kernel_rfl)))
                   obtain ⟨c_, hv_⟩ := HA_HO298.out
                   rw [hv_] at e103
                   refine value_ (w1 := w') (v := .pointer (some (adz_v297.add ((aD)).toNat))) (by rfl) rfl ?_ ?_
                   ·go_simp
                    (try simp only [i64_w])
                    try rfl
                   refine hK.out _ _ ⟨v293, adz_v293, v297, adz_v297, m6_, (.pointer (some (adz_v297.add ((aD)).toNat))), (by rw [ha.out]; exact putSel_upk 8 hb_ rfl rfl rfl), Q_BK282, Q_BK283, Q_BK286, Q_BK291, Q_HB, ak, Q_HA_HO294, al, Q_HA_HO298, Q_X6_, fun _ => rfl⟩
                  refine steps_cons ?_ ?_
                  ·rintro b a w' ⟨v293, adz_v293, v297, adz_v297, m6_, m14_, ha, Q_BK282, Q_BK283, Q_BK286, Q_BK291, Q_HB, ak, Q_HA_HO294, al, Q_HA_HO298, Q_X6_, Q_X14_⟩ hb_ hon hoff
                   refine ⟨_, rfl, fun K hK => ?_⟩
                   have e106 : a.tmps[106]? = some (m14_) := by rw [ha]; exact putSel_on (e := (14, 106, m14_)) 8 rfl rfl (hon 14 (by kernel_rfl)) rfl
                   rw [Q_X14_ (hon 14 (by kernel_rfl))] at e106
                   replace ha := A_.mk ha
                   have ab := A_.mk Q_BK282
                   have ad := A_.mk Q_BK283
                   have ac := A_.mk Q_BK286
                   have ag := A_.mk Q_BK291
                   have HB := A_.mk Q_HB
                   have aY := A_.mk (al (hon 11 (by kernel_rfl)))
                   have HA_HO298 := A_.mk (Q_HA_HO298 (hon 11 (by kernel_rfl)))
                   obtain ⟨c_, hv_⟩ := HA_HO298.out
                   have hF_ := aY.out
                   rw [hv_] at hF_
                   obtain ⟨ad_, ea_, hx_⟩ := Kd.at_int (Kd.R_reads' hF_).2.2 (aD) (of_eq_true pi299) (of_eq_true qi299)
                   cases ea_
                   refine value_ (w1 := w') (v := .int .i64 (rd ap (aD))) (by rfl) rfl ?_ ?_
                   ·go_simp
                    (try simp only [i64_w])
                    try rfl
                   refine hK.out _ _ ⟨v293, adz_v293, v297, adz_v297, m6_, m14_, (by rw [ha.out]; exact putSel_upk 9 hb_ rfl rfl rfl), Q_BK282, Q_BK283, Q_BK286, Q_BK291, Q_HB, ak, Q_HA_HO294, al, Q_HA_HO298, Q_X6_, Q_X14_⟩
                  refine steps_cons ?_ ?_
                  ·rintro b a w' ⟨v293, adz_v293, v297, adz_v297, m6_, m14_, ha, Q_BK282, Q_BK283, Q_BK286, Q_BK291, Q_HB, ak, Q_HA_HO294, al, Q_HA_HO298, Q_X6_, Q_X14_⟩ hb_ hon hoff
                   refine ⟨_, rfl, fun K hK => ?_⟩
                   have e99 : a.tmps[99]? = some (.int .i64 (rd aA (ao))) := by rw [ha]; exact putSel_on (e := (7, 99, .int .i64 (rd aA (ao)))) 4 rfl rfl (hon 7 (by kernel_rfl)) rfl
                   have e107 : a.tmps[107]? = some (.int .i64 (rd ap (aD))) := by rw [ha]; exact putSel_on (e := (15, 107, .int .i64 (rd ap (aD)))) 9 rfl rfl (hon 15 (by kernel_rfl)) rfl
                   replace ha := A_.mk ha
                   have ab := A_.mk Q_BK282
                   have ad := A_.mk Q_BK283
                   have ac := A_.mk Q_BK286
                   have ag := A_.mk Q_BK291
                   have HB := A_.mk Q_HB
                   have aX := A_.mk (ak (hon 3 (by kernel_rfl)))
                   have HA_HO294 := A_.mk (Q_HA_HO294 (hon 3 (by kernel_rfl)))
                   have aY := A_.mk (al (hon 11 (by kernel_rfl)))
                   have HA_HO298 := A_.mk (Q_HA_HO298 (hon 11 (by kernel_rfl)))
                   refine value_ (w1 := w') (v := .int .i64 (wrap64 ((rd aA (ao)) * (rd ap (aD))))) (by rfl) rfl ?_ ?_
                   ·go_simp
                    (try simp only [i64_w])
                    try rfl
                   refine hK.out _ _ ⟨v293, adz_v293, v297, adz_v297, m6_, m14_, (by rw [ha.out]; exact putSel_upk 10 hb_ rfl rfl rfl), Q_BK282, Q_BK283, Q_BK286, Q_BK291, Q_HB, ak, Q_HA_HO294, al, Q_HA_HO298, Q_X6_, Q_X14_⟩
                  refine steps_cons ?_ ?_
                  ·rintro b a w' ⟨v293, adz_v293, v297, adz_v297, m6_, m14_, ha, Q_BK282, Q_BK283, Q_BK286, Q_BK291, Q_HB, ak, Q_HA_HO294, al, Q_HA_HO298, Q_X6_, Q_X14_⟩ hb_ hon hoff
                   refine ⟨_, rfl, fun K hK => ?_⟩
                   have e108 : a.tmps[108]? = some (.int .i64 (wrap64 ((rd aA (ao)) * (rd ap (aD))))) := by rw [ha]; exact putSel_on (e := (16, 108, .int .i64 (wrap64 ((rd aA (ao)) * (rd ap (aD)))))) 10 rfl rfl (hon 16 (by kernel_rfl)) rfl
                   replace ha := A_.mk ha
                   have ab := A_.mk Q_BK282
                   have ad := A_.mk Q_BK283
                   have ac := A_.mk Q_BK286
                   have ag := A_.mk Q_BK291
                   have HB := A_.mk Q_HB
                   have aX := A_.mk (ak (hon 3 (by kernel_rfl)))
                   have HA_HO294 := A_.mk (Q_HA_HO294 (hon 3 (by kernel_rfl)))
                   have aY := A_.mk (al (hon 11 (by kernel_rfl)))
                   have HA_HO298 := A_.mk (Q_HA_HO298 (hon 11 (by kernel_rfl)))
                   refine value_ (w1 := w') (v := .int .i64 (wrap64 ((rd aA (ao)) * (rd ap (aD))))) (by rfl) rfl ?_ ?_
                   ·go_simp
                    (try simp only [i64_w])
                    try rfl
                   refine hK.out _ _ ⟨v293, adz_v293, v297, adz_v297, m6_, m14_, (by rw [ha.out]; exact putSel_upk 11 hb_ rfl rfl rfl), Q_BK282, Q_BK283, Q_BK286, Q_BK291, Q_HB, ak, Q_HA_HO294, al, Q_HA_HO298, Q_X6_, Q_X14_⟩
                  exact steps_nil
                 rintro b a lq hall ⟨v293, adz_v293, v297, adz_v297, m6_, m14_, ha, Q_BK282, Q_BK283, Q_BK286, Q_BK291, Q_HB, ak, Q_HA_HO294, al, Q_HA_HO298, Q_X6_, Q_X14_⟩
                 clear ab ad ac ag HB
                 have eC := hall 1 (by kernel_rfl)
                 have b8 := hall 3 (by kernel_rfl)
                 have eD := hall 5 (by kernel_rfl)
                 have cw := hall 6 (by kernel_rfl)
                 have eE := hall 7 (by kernel_rfl)
                 have eF := hall 9 (by kernel_rfl)
                 have bK := hall 11 (by kernel_rfl)
                 have cF := hall 13 (by kernel_rfl)
                 have b9 := hall 14 (by kernel_rfl)
                 have cG := hall 15 (by kernel_rfl)
                 have cH := hall 16 (by kernel_rfl)
                 have cI := hall 17 (by kernel_rfl)
                 subst ha
                 obtain rfl := Q_X6_ cw
                 obtain rfl := Q_X14_ b9
                 simp only [putSel, eC, b8, eD, cw, eE, eF, bK, cF, b9, cG, cH, cI, if_true, Act.put, List.setIfInBounds_toArray, List.set_cons_zero, List.set_cons_succ]
                 have ab := A_.mk Q_BK282
                 clear Q_BK282
                 have ad := A_.mk Q_BK283
                 clear Q_BK283
                 have ac := A_.mk Q_BK286
                 clear Q_BK286
                 have ag := A_.mk Q_BK291
                 clear Q_BK291
                 have HB := A_.mk Q_HB
                 clear Q_HB
                 have aX := A_.mk (ak b8)
                 clear ak
                 have HA_HO294 := A_.mk (Q_HA_HO294 b8)
                 clear Q_HA_HO294
                 have aY := A_.mk (al bK)
                 clear al
                 have HA_HO298 := A_.mk (Q_HA_HO298 bK)
                 clear Q_HA_HO298
                 clear hall eC b8 eD cw eE eF bK cF b9 cG cH cI
                 obtain ⟨lh, eo85⟩ := HA_HO294.out
                 clear HA_HO294
                 subst eo85
                 obtain ⟨li, eo86⟩ := HA_HO298.out
                 clear HA_HO298
                 subst eo86
                 try go_wp2
                 go_roundg k3
                 case measure => have := cB.out; have := gR.out; have := HK3.out; omega
                 case rel => exact ⟨(wrap64 (aG + 1)), (aB), (aC), (aE), (aF), (by first | rfl | (simp; done) | (simp [*]; done)), H', ⟨by have := cB.out; have := gR.out; have := HK3.out; omega⟩, ⟨by refine kB ?_; exact ab.out⟩, ⟨by refine kB ?_; exact ad.out⟩, ⟨by refine kB ?_; exact ac.out⟩, ⟨by refine kB ?_; exact ag.out⟩, ⟨by exact lB HB.out⟩⟩
                ·rw [if_neg c76] at H
                 have it : ((wrap64 ((rd aA (ao)) * (rd ap (aD)))) == 0) = false := beq_eq_false_iff_ne.mpr c76
                 have iu : ((wrap64 ((rd aA (ao)) * (rd ap (aD)))) != 0) = true := bne_iff_ne.mpr c76
                 replace H := Option.bind_eq_some_iff.mp H
                 obtain ⟨⟨ef, eG, gT, g3, iA⟩, A870, H⟩ := H
                 replace H : (pochoirref32_At.l0 k3 bx aN bA aM (wrap64 (aG + 1)) aq ar au av aw ax ay az aa an aj ((Z_ aa a1).f0) ((Z_ aa a1).f1.f0) ((Z_ aa a1).f1.f1) ((Z_ aa a1).f1.f2) ((Z_ aa a1).f1.f3) ((Z_ aa a1).f2.f0) ((Z_ aa a1).f2.f1) ((Z_ aa a1).f2.f2) (wrap64 (aB + (wrap64 ((wrap64 ((rd aA (ao)) * (rd ap (aD)))) * (wrap64 (ef)))))) (wrap64 (aC + (wrap64 ((wrap64 ((rd aA (ao)) * (rd ap (aD)))) * (wrap64 (eG)))))) (wrap64 (aE + (wrap64 ((wrap64 ((rd aA (ao)) * (rd ap (aD)))) * (wrap64 (gT)))))) (wrap64 (aF + (wrap64 ((wrap64 ((rd aA (ao)) * (rd ap (aD)))) * (wrap64 (g3))))))) = some (r1, r2, r3, r4, r5) := H
                 have A87 := A_.mk A870
                 clear A870
                 have H' := A_.mk H
                 clear H
                 try go_wp2
                 have pi295 : (0 ≤ ((ao) : Int)) = True := eq_true (of_decide_eq_true (by first | (with_reducible assumption) | assumption))
                 have qi295 : ((ao) < (aA.length : Int)) = True := eq_true (of_decide_eq_true (by first | (with_reducible assumption) | assumption))
                 have pi299 : (0 ≤ ((aD) : Int)) = True := eq_true (of_decide_eq_true (by first | (with_reducible assumption) | assumption))
                 have qi299 : ((aD) < (ap.length : Int)) = True := eq_true (of_decide_eq_true (by first | (with_reducible assumption) | assumption))
                 have aT := A_.mk (Y_ ab.out)
                 have aU := A_.mk (Y_ ad.out)
                 have aV := A_.mk (Y_ ac.out)
                 have aZ := A_.mk (Y_ ag.out)
                 have bf := A_.mk (T_ HB.out)
                 clear ab
                 clear ad
                 clear ac
                 clear ag
                 clear HB
                 have ab := aT
                 have ad := aU
                 have ac := aV
                 have ag := aZ
                 have HB := bf
                 clear aT aU aV aZ bf
                 refine start_ (n := 18) (S := fun w' => True) (ds := []) #[false, false, false, false, false, false, false, false, false, false, false, false, false, false, false, false, false, false] (by kernel_rfl) rfl rfl trivial (fun hHeld => ?_); refine with_tabW pochoirref32_At.tab12 pochoirref32_At.bits12 (fun HT_ HW_ => ?_)
                 generalize wr.drew = lr at ab ad ac ag HB hHeld ⊢
                 refine pure_ (i := 0) (N := some 92) (v := ?_) (a' := ?_) #[true, false, false, false, false, false, false, false, false, false, false, false, false, false, false, false, false, false] rfl rfl (A1_ HT_.out (by kernel_rfl)) (fun _ _ _ h => h) (Or.inl ⟨by rfl, ?_⟩) ?_ ?_
                 rotate_left
                 ·intro w'
                  go_simp
                  with_reducible rfl
                 rotate_left
                 ·exact pA
                 refine pure_ (i := 2) (N := some 94) (v := ?_) (a' := ?_) #[true, false, true, false, false, false, false, false, false, false, false, false, false, false, false, false, false, false] rfl rfl (A1_ HT_.out (by kernel_rfl)) (fun _ _ _ h => h) (Or.inl ⟨by rfl, ?_⟩) ?_ ?_
                 rotate_left
                 ·intro w'
                  go_simp
                  with_reducible rfl
                 rotate_left
                 ·exact pA
                 refine pure_ (i := 4) (N := some 96) (v := ?_) (a' := ?_) #[true, false, true, false, true, false, false, false, false, false, false, false, false, false, false, false, false, false] rfl rfl (A1_ HT_.out (by kernel_rfl)) (fun _ _ _ h => h) (Or.inl ⟨by rfl, ?_⟩) ?_ ?_
                 rotate_left
                 ·intro w'
                  go_simp
                  with_reducible rfl
                 rotate_left
                 ·exact pA
                 refine pure_ (i := 8) (N := some 100) (v := ?_) (a' := ?_) #[true, false, true, false, true, false, false, false, true, false, false, false, false, false, false, false, false, false] rfl rfl (A1_ HT_.out (by kernel_rfl)) (fun _ _ _ h => h) (Or.inl ⟨by rfl, ?_⟩) ?_ ?_
                 rotate_left
                 ·intro w'
                  go_simp
                  with_reducible rfl
                 rotate_left
                 ·exact pA
                 refine pure_ (i := 10) (N := some 102) (v := ?_) (a' := ?_) #[true, false, true, false, true, false, false, false, true, false, true, false, false, false, false, false, false, false] rfl rfl (A1_ HT_.out (by kernel_rfl)) (fun _ _ _ h => h) (Or.inl ⟨by rfl, ?_⟩) ?_ ?_
                 rotate_left
                 ·intro w'
                  go_simp
                  with_reducible rfl
                 rotate_left
                 ·exact pA
                 refine pure_ (i := 12) (N := some 104) (v := ?_) (a' := ?_) #[true, false, true, false, true, false, false, false, true, false, true, false, true, false, false, false, false, false] rfl rfl (A1_ HT_.out (by kernel_rfl)) (fun _ _ _ h => h) (Or.inl ⟨by rfl, ?_⟩) ?_ ?_
                 rotate_left
                 ·intro w'
                  go_simp
                  with_reducible rfl
                 rotate_left
                 ·exact pA
                 refine inv_at [1, 3, 5, 6, 7, 9, 11, 13, 14, 15, 16, 17] (fun a0_ b a w' => ∃ (v293 : Value) (adz_v293 : Addr) (v297 : Value) (adz_v297 : Addr) (m6_ : Value) (m14_ : Value), a = putSel a0_ b [(1, 93, .int .i64 (wrap64 (256 - aN))), (3, 95, v293), (5, 97, .int .i64 ao), (6, 98, m6_), (7, 99, .int .i64 (rd aA (ao))), (9, 101, .int .i64 (wrap64 (256 - aM))), (11, 103, v297), (13, 105, .int .i64 aD), (14, 106, m14_), (15, 107, .int .i64 (rd ap (aD))), (16, 108, .int .i64 (wrap64 ((rd aA (ao)) * (rd ap (aD))))), (17, 17, .int .i64 (wrap64 ((rd aA (ao)) * (rd ap (aD)))))] ∧ (w'.heap[ae]? = some (.cells #[.int .i64 aq, .int .i64 ar, .int .i64 au, .int .i64 av, .int .i64 aw, .int .i64 ax, .int .i64 ay, .int .i64 az, .slice (some ad285) aa.length aP, .slice aQ an.length aR, .slice aK aj.length aL] 28 (0, 0))) ∧ (w'.heap[aH]? = some (.cells #[.int .i64 0, .int .i64 0, .int .i64 0, .int .i64 0] 32 (0, 0))) ∧ (w'.heap[af]? = some (.cells #[.int .i64 ((Z_ aa a1).f0), .int .i64 ((Z_ aa a1).f1.f0), .int .i64 ((Z_ aa a1).f1.f1), .int .i64 ((Z_ aa a1).f1.f2), .int .i64 ((Z_ aa a1).f1.f3), .int .i64 ((Z_ aa a1).f2.f0), .int .i64 ((Z_ aa a1).f2.f1), .int .i64 ((Z_ aa a1).f2.f2)] 54 (0, 0))) ∧ (w'.heap[aO]? = some (.cells #[.int .i64 aB, .int .i64 aC, .int .i64 aE, .int .i64 aF] 32 (0, 0))) ∧ (Below w.heap.size w w') ∧ (b 3 = true → Kd.R (Kd.int .i64) 3 w' w.heap.size (fun _ => True) v293 aA) ∧ (b 3 = true → ∃ c_, (v293 : Value) = .slice (some adz_v293) aA.length c_) ∧ (b 11 = true → Kd.R (Kd.int .i64) 3 w' w.heap.size (fun _ => True) v297 ap) ∧ (b 11 = true → ∃ c_, (v297 : Value) = .slice (some adz_v297) ap.length c_) ∧ (b 6 = true → (m6_ : Value) = .pointer (some (adz_v293.add ((ao)).toNat))) ∧ (b 14 = true → (m14_ : Value) = .pointer (some (adz_v297.add ((aD)).toNat)))) HT_.out HW_.out (by kernel_rfl) (by kernel_rfl) ?_ ?_ ?_
                 ·exact ⟨.bool false, ⟨0, 0, none⟩, .bool false, ⟨0, 0, none⟩, .bool false, .bool false, by simp only [putSel, Bool.false_eq_true, if_false], ab.out, ad.out, ac.out, ag.out, HB.out, fun h_ => absurd h_ (by decide), fun h_ => absurd h_ (by decide), fun h_ => absurd h_ (by decide), fun h_ => absurd h_ (by decide), fun h_ => absurd h_ (by decide), fun h_ => absurd h_ (by decide)⟩
                 ·skip
                  clear ab ad ac ag HB
                  refine steps_cons ?_ ?_
                  ·rintro b a w' ⟨v293, adz_v293, v297, adz_v297, m6_, m14_, ha, Q_BK282, Q_BK283, Q_BK286, Q_BK291, Q_HB, ak, Q_HA_HO294, al, Q_HA_HO298, Q_X6_, Q_X14_⟩ hb_ hon hoff
                   refine ⟨_, rfl, fun K hK => ?_⟩
                   have e92 : a.tmps[92]? = some (.int .i64 aN) := by rw [ha]; exact (putSel_off rfl).trans rfl
                   replace ha := A_.mk ha
                   have ab := A_.mk Q_BK282
                   have ad := A_.mk Q_BK283
                   have ac := A_.mk Q_BK286
                   have ag := A_.mk Q_BK291
                   have HB := A_.mk Q_HB
                   refine value_ (w1 := w') (v := .int .i64 (wrap64 (256 - aN))) (by rfl) rfl ?_ ?_
                   ·go_simp
                    (try simp only [i64_w])
                    try rfl
                   refine hK.out _ _ ⟨v293, adz_v293, v297, adz_v297, m6_, m14_, (by rw [ha.out]; exact putSel_upk 0 hb_ rfl rfl rfl), Q_BK282, Q_BK283, Q_BK286, Q_BK291, Q_HB, fun h0_ => absurd ((hoff 3 (by kernel_rfl)).symm.trans h0_) (by decide), fun h0_ => absurd ((hoff 3 (by kernel_rfl)).symm.trans h0_) (by decide), al, Q_HA_HO298, fun h0_ => absurd ((hoff 6 (by kernel_rfl)).symm.trans h0_) (by decide), Q_X14_⟩
                  refine steps_cons ?_ ?_
                  ·rintro b a w' ⟨v293, adz_v293, v297, adz_v297, m6_, m14_, ha, Q_BK282, Q_BK283, Q_BK286, Q_BK291, Q_HB, ak, Q_HA_HO294, al, Q_HA_HO298, Q_X6_, Q_X14_⟩ hb_ hon hoff
                   refine ⟨_, rfl, fun K hK => ?_⟩
                   have e93 : a.tmps[93]? = some (.int .i64 (wrap64 (256 - aN))) := by rw [ha]; exact putSel_on (e := (1, 93, .int .i64 (wrap64 (256 - aN)))) 0 rfl rfl (hon 1 (by kernel_rfl)) rfl
                   have e94 : a.tmps[94]? = some (.int .i64 aN) := by rw [ha]; exact (putSel_off rfl).trans rfl
                   replace ha := A_.mk ha
                   have ab := A_.mk Q_BK282
                   have ad := A_.mk Q_BK283
                   have ac := A_.mk Q_BK286
                   have ag := A_.mk Q_BK291
                   have HB := A_.mk Q_HB
                   refine Kd.R_lit_step (Kd.int .i64) _ 3 ?hg (N := 95) ?hd (xs := ([wrap64 (256 - aN), aN] : List Int)) (inner := [.int .i64 (wrap64 (256 - aN)), .int .i64 aN]) (ok := fun _ => True) (okp := fun _ => True) ?hr ?hp (fun _ hk => hk) trivial (Below.refl _ _) (Nat.le_refl _) (by simp) ?_; (case hd => rfl); (case hg => rfl); (case hr => first | (go_simp; done) | (go_simp; rfl)); (case hp => exact (Reps.one (show Kd.M (Kd.int .i64) _ _ _ (wrap64 (256 - aN)) [.int .i64 (wrap64 (256 - aN))] from rfl) (Reps.one (show Kd.M (Kd.int .i64) _ _ _ aN [.int .i64 aN] from rfl) (Reps.none _ _))))
                   intro v293 ik bD hb hg_ hnew_
                   clear hg_ hnew_
                   (first | rw [← Ny292.out] at bD | (simp only [Int.reduceToNat] at bD; rw [← Ny292.out] at bD))
                   have aT := A_.mk (Kd.R_lower bD (G_ (by exact lB HB.out)))
                   have aU := A_.mk (F_ (g := ae) (o := .cells #[.int .i64 aq, .int .i64 ar, .int .i64 au, .int .i64 av, .int .i64 aw, .int .i64 ax, .int .i64 ay, .int .i64 az, .slice (some ad285) aa.length aP, .slice aQ an.length aR, .slice aK aj.length aL] 28 (0, 0)) (by refine kB ?_; exact ab.out) hb)
                   have aV := A_.mk (F_ (g := aH) (o := .cells #[.int .i64 0, .int .i64 0, .int .i64 0, .int .i64 0] 32 (0, 0)) (by refine kB ?_; exact ad.out) hb)
                   have aZ := A_.mk (F_ (g := af) (o := .cells #[.int .i64 ((Z_ aa a1).f0), .int .i64 ((Z_ aa a1).f1.f0), .int .i64 ((Z_ aa a1).f1.f1), .int .i64 ((Z_ aa a1).f1.f2), .int .i64 ((Z_ aa a1).f1.f3), .int .i64 ((Z_ aa a1).f2.f0), .int .i64 ((Z_ aa a1).f2.f1), .int .i64 ((Z_ aa a1).f2.f2)] 54 (0, 0)) (by refine kB ?_; exact ac.out) hb)
                   have bf := A_.mk (F_ (g := aO) (o := .cells #[.int .i64 aB, .int .i64 aC, .int .i64 aE, .int .i64 aF] 32 (0, 0)) (by refine kB ?_; exact ag.out) hb)
                   have bs := A_.mk (E_ (by exact lB HB.out) hb)
                   have z_HO298 := fun (h0_ : b 11 = true) => (show Kd.R (Kd.int .i64) 3 ik w.heap.size (fun _ => True) v297 ap from by first | exact (Kd.R_elder' (by (with_reducible repeat (first | apply Kd.R_alloc | apply Kd.R_drewN | apply Kd.R_drew)); exact (al h0_)) (Kd.R_base bD) hb) | exact Kd.R_mono (Kd.R_elder' (by (with_reducible repeat (first | apply Kd.R_alloc | apply Kd.R_drewN | apply Kd.R_drew)); exact (al h0_)) (Kd.R_base bD) hb) (fun _ h_ => by first | trivial | exact h_ | exact h_.1))
                   clear ab
                   clear ad
                   clear ac
                   clear ag
                   clear HB
                   have aX := aT
                   have ab := aU
                   have ad := aV
                   have ac := aZ
                   have ag := bf
                   have HB := bs
                   clear aT aU aV aZ bf bs
                   clear hb bD
                   obtain ⟨iB, g4, eo91⟩ := Kd.R_slice aX.out
                   subst eo91
                   obtain ⟨ado91, fo91, _⟩ := Kd.at_int (Kd.R_reads' aX.out).2.2 0 (by decide) (by rw [Ny292.out]; simp)
                   cases fo91
                   refine hK.out _ _ ⟨.slice (some ado91) aA.length g4, ado91, v297, adz_v297, m6_, m14_, (by rw [ha.out]; exact putSel_upk 1 hb_ rfl rfl rfl), (by refine kB ?_; exact ab.out), (by refine kB ?_; exact ad.out), (by refine kB ?_; exact ac.out), (by refine kB ?_; exact ag.out), (by exact lB HB.out), fun _ => (by (with_reducible repeat (first | apply Kd.R_alloc | apply Kd.R_drewN | apply Kd.R_drew)); exact aX.out), fun _ => ⟨_, rfl⟩, z_HO298, Q_HA_HO298, fun h0_ => absurd ((hoff 6 (by kernel_rfl)).symm.trans h0_) (by decide), Q_X14_⟩
                  refine steps_cons ?_ ?_
                  ·rintro b a w' ⟨v293, adz_v293, v297, adz_v297, m6_, m14_, ha, Q_BK282, Q_BK283, Q_BK286, Q_BK291, Q_HB, ak, Q_HA_HO294, al, Q_HA_HO298, Q_X6_, Q_X14_⟩ hb_ hon hoff
                   refine ⟨_, rfl, fun K hK => ?_⟩
                   have e96 : a.tmps[96]? = some (.int .i64 aG) := by rw [ha]; exact (putSel_off rfl).trans rfl
                   replace ha := A_.mk ha
                   have ab := A_.mk Q_BK282
                   have ad := A_.mk Q_BK283
                   have ac := A_.mk Q_BK286
                   have ag := A_.mk Q_BK291
                   have HB := A_.mk Q_HB
                   refine value_ (w1 := w') (v := .int .i64 ao) (by rfl) rfl ?_ ?_
                   ·go_simp
                    (try simp only [i64_w])
                    try rfl
                   refine hK.out _ _ ⟨v293, adz_v293, v297, adz_v297, m6_, m14_, (by rw [ha.out]; exact putSel_upk 2 hb_ rfl rfl rfl), Q_BK282, Q_BK283, Q_BK286, Q_BK291, Q_HB, ak, Q_HA_HO294, al, Q_HA_HO298, fun h0_ => absurd ((hoff 6 (by kernel_rfl)).symm.trans h0_) (by decide), Q_X14_⟩
                  refine steps_cons ?_ ?_
                  ·rintro b a w' ⟨v293, adz_v293, v297, adz_v297, m6_, m14_, ha, Q_BK282, Q_BK283, Q_BK286, Q_BK291, Q_HB, ak, Q_HA_HO294, al, Q_HA_HO298, Q_X6_, Q_X14_⟩ hb_ hon hoff
                   refine ⟨_, rfl, fun K hK => ?_⟩
                   have e95 : a.tmps[95]? = some (v293) := by rw [ha]; exact putSel_on (e := (3, 95, v293)) 1 rfl rfl (hon 3 (by kernel_rfl)) rfl
                   have e97 : a.tmps[97]? = some (.int .i64 ao) := by rw [ha]; exact putSel_on (e := (5, 97, .int .i64 ao)) 2 rfl rfl (hon 5 (by kernel_rfl)) rfl
                   replace ha := A_.mk ha
                   have ab := A_.mk Q_BK282
                   have ad := A_.mk Q_BK283
                   have ac := A_.mk Q_BK286
                   have ag := A_.mk Q_BK291
                   have HB := A_.mk Q_HB
                   have aX := A_.mk (ak (hon 3 (by kernel_rfl)))
                   have HA_HO294 := A_.mk (Q_HA_HO294 (hon 3 (by kernel_rfl)))
                   obtain ⟨c_, hv_⟩ := HA_HO294.out
                   rw [hv_] at e95
                   refine value_ (w1 := w') (v := .pointer (some (adz_v293.add ((ao)).toNat))) (by rfl) rfl ?_ ?_
                   ·go_simp
                    (try simp only [i64_w])
                    try rfl
                   refine hK.out _ _ ⟨v293, adz_v293, v297, adz_v297, (.pointer (some (adz_v293.add ((ao)).toNat))), m14_, (by rw [ha.out]; exact putSel_upk 3 hb_ rfl rfl rfl), Q_BK282, Q_BK283, Q_BK286, Q_BK291, Q_HB, ak, Q_HA_HO294, al, Q_HA_HO298, fun _ => rfl, Q_X14_⟩
                  refine steps_cons ?_ ?_
                  ·rintro b a w' ⟨v293, adz_v293, v297, adz_v297, m6_, m14_, ha, Q_BK282, Q_BK283, Q_BK286, Q_BK291, Q_HB, ak, Q_HA_HO294, al, Q_HA_HO298, Q_X6_, Q_X14_⟩ hb_ hon hoff
                   refine ⟨_, rfl, fun K hK => ?_⟩
                   have e98 : a.tmps[98]? = some (m6_) := by rw [ha]; exact putSel_on (e := (6, 98, m6_)) 3 rfl rfl (hon 6 (by kernel_rfl)) rfl
                   rw [Q_X6_ (hon 6 (by kernel_rfl))] at e98
                   replace ha := A_.mk ha
                   have ab := A_.mk Q_BK282
                   have ad := A_.mk Q_BK283
                   have ac := A_.mk Q_BK286
                   have ag := A_.mk Q_BK291
                   have HB := A_.mk Q_HB
                   have aX := A_.mk (ak (hon 3 (by kernel_rfl)))
                   have HA_HO294 := A_.mk (Q_HA_HO294 (hon 3 (by kernel_rfl)))
                   obtain ⟨c_, hv_⟩ := HA_HO294.out
                   have hF_ := aX.out
                   rw [hv_] at hF_
                   obtain ⟨ad_, ea_, hx_⟩ := Kd.at_int (Kd.R_reads' hF_).2.2 (ao) (of_eq_true pi295) (of_eq_true qi295)
                   cases ea_
                   refine value_ (w1 := w') (v := .int .i64 (rd aA (ao))) (by rfl) rfl ?_ ?_
                   ·go_simp
                    (try simp only [i64_w])
                    try rfl
                   refine hK.out _ _ ⟨v293, adz_v293, v297, adz_v297, m6_, m14_, (by rw [ha.out]; exact putSel_upk 4 hb_ rfl rfl rfl), Q_BK282, Q_BK283, Q_BK286, Q_BK291, Q_HB, ak, Q_HA_HO294, al, Q_HA_HO298, Q_X6_, Q_X14_⟩
                  refine steps_cons ?_ ?_
                  ·rintro b a w' ⟨v293, adz_v293, v297, adz_v297, m6_, m14_, ha, Q_BK282, Q_BK283, Q_BK286, Q_BK291, Q_HB, ak, Q_HA_HO294, al, Q_HA_HO298, Q_X6_, Q_X14_⟩ hb_ hon hoff
                   refine ⟨_, rfl, fun K hK => ?_⟩
                   have e100 : a.tmps[100]? = some (.int .i64 aM) := by rw [ha]; exact (putSel_off rfl).trans rfl
                   replace ha := A_.mk ha
                   have ab := A_.mk Q_BK282
                   have ad := A_.mk Q_BK283
                   have ac := A_.mk Q_BK286
                   have ag := A_.mk Q_BK291
                   have HB := A_.mk Q_HB
                   refine value_ (w1 := w') (v := .int .i64 (wrap64 (256 - aM))) (by rfl) rfl ?_ ?_
                   ·go_simp
                    (try simp only [i64_w])
                    try rfl
                   refine hK.out _ _ ⟨v293, adz_v293, v297, adz_v297, m6_, m14_, (by rw [ha.out]; exact putSel_upk 5 hb_ rfl rfl rfl), Q_BK282, Q_BK283, Q_BK286, Q_BK291, Q_HB, ak, Q_HA_HO294, fun h0_ => absurd ((hoff 11 (by kernel_rfl)).symm.trans h0_) (by decide), fun h0_ => absurd ((hoff 11 (by kernel_rfl)).symm.trans h0_) (by decide), Q_X6_, fun h0_ => absurd ((hoff 14 (by kernel_rfl)).symm.trans h0_) (by decide)⟩
                  refine steps_cons ?_ ?_
                  ·rintro b a w' ⟨v293, adz_v293, v297, adz_v297, m6_, m14_, ha, Q_BK282, Q_BK283, Q_BK286, Q_BK291, Q_HB, ak, Q_HA_HO294, al, Q_HA_HO298, Q_X6_, Q_X14_⟩ hb_ hon hoff
                   refine ⟨_, rfl, fun K hK => ?_⟩
                   have e101 : a.tmps[101]? = some (.int .i64 (wrap64 (256 - aM))) := by rw [ha]; exact putSel_on (e := (9, 101, .int .i64 (wrap64 (256 - aM)))) 5 rfl rfl (hon 9 (by kernel_rfl)) rfl
                   have e102 : a.tmps[102]? = some (.int .i64 aM) := by rw [ha]; exact (putSel_off rfl).trans rfl
                   replace ha := A_.mk ha
                   have ab := A_.mk Q_BK282
                   have ad := A_.mk Q_BK283
                   have ac := A_.mk Q_BK286
                   have ag := A_.mk Q_BK291
                   have HB := A_.mk Q_HB
                   refine Kd.R_lit_step (Kd.int .i64) _ 3 ?hg (N := 103) ?hd (xs := ([wrap64 (256 - aM), aM] : List Int)) (inner := [.int .i64 (wrap64 (256 - aM)), .int .i64 aM]) (ok := fun _ => True) (okp := fun _ => True) ?hr ?hp (fun _ hk => hk) trivial (Below.refl _ _) (Nat.le_refl _) (by simp) ?_; (case hd => rfl); (case hg => rfl); (case hr => first | (go_simp; done) | (go_simp; rfl)); (case hp => exact (Reps.one (show Kd.M (Kd.int .i64) _ _ _ (wrap64 (256 - aM)) [.int .i64 (wrap64 (256 - aM))] from rfl) (Reps.one (show Kd.M (Kd.int .i64) _ _ _ aM [.int .i64 aM] from rfl) (Reps.none _ _))))
                   intro v297 ik bD hb hg_ hnew_
                   clear hg_ hnew_
                   (first | rw [← Ny296.out] at bD | (simp only [Int.reduceToNat] at bD; rw [← Ny296.out] at bD))
                   have aT := A_.mk (Kd.R_lower bD (G_ (by exact lB HB.out)))
                   have aU := A_.mk (F_ (g := ae) (o := .cells #[.int .i64 aq, .int .i64 ar, .int .i64 au, .int .i64 av, .int .i64 aw, .int .i64 ax, .int .i64 ay, .int .i64 az, .slice (some ad285) aa.length aP, .slice aQ an.length aR, .slice aK aj.length aL] 28 (0, 0)) (by refine kB ?_; exact ab.out) hb)
                   have aV := A_.mk (F_ (g := aH) (o := .cells #[.int .i64 0, .int .i64 0, .int .i64 0, .int .i64 0] 32 (0, 0)) (by refine kB ?_; exact ad.out) hb)
                   have aZ := A_.mk (F_ (g := af) (o := .cells #[.int .i64 ((Z_ aa a1).f0), .int .i64 ((Z_ aa a1).f1.f0), .int .i64 ((Z_ aa a1).f1.f1), .int .i64 ((Z_ aa a1).f1.f2), .int .i64 ((Z_ aa a1).f1.f3), .int .i64 ((Z_ aa a1).f2.f0), .int .i64 ((Z_ aa a1).f2.f1), .int .i64 ((Z_ aa a1).f2.f2)] 54 (0, 0)) (by refine kB ?_; exact ac.out) hb)
                   have bf := A_.mk (F_ (g := aO) (o := .cells #[.int .i64 aB, .int .i64 aC, .int .i64 aE, .int .i64 aF] 32 (0, 0)) (by refine kB ?_; exact ag.out) hb)
                   have bs := A_.mk (E_ (by exact lB HB.out) hb)
                   have z_HO294 := fun (h0_ : b 3 = true) => (show Kd.R (Kd.int .i64) 3 ik w.heap.size (fun _ => True) v293 aA from by first | exact (Kd.R_elder' (by (with_reducible repeat (first | apply Kd.R_alloc | apply Kd.R_drewN | apply Kd.R_drew)); exact (ak h0_)) (Kd.R_base bD) hb) | exact Kd.R_mono (Kd.R_elder' (by (with_reducible repeat (first | apply Kd.R_alloc | apply Kd.R_drewN | apply Kd.R_drew)); exact (ak h0_)) (Kd.R_base bD) hb) (fun _ h_ => by first | trivial | exact h_ | exact h_.1))
                   clear ab
                   clear ad
                   clear ac
                   clear ag
                   clear HB
                   have aY := aT
                   have ab := aU
                   have ad := aV
                   have ac := aZ
                   have ag := bf
                   have HB := bs
                   clear aT aU aV aZ bf bs
                   clear hb bD
                   obtain ⟨iB, g4, eo91⟩ := Kd.R_slice aY.out
                   subst eo91
                   obtain ⟨ado91, fo91, _⟩ := Kd.at_int (Kd.R_reads' aY.out).2.2 0 (by decide) (by rw [Ny296.out]; simp)
                   cases fo91
                   refine hK.out _ _ ⟨v293, adz_v293, .slice (some ado91) ap.length g4, ado91, m6_, m14_, (by rw [ha.out]; exact putSel_upk 6 hb_ rfl rfl rfl), (by refine kB ?_; exact ab.out), (by refine kB ?_; exact ad.out), (by refine kB ?_; exact ac.out), (by refine kB ?_; exact ag.out), (by exact lB HB.out), z_HO294, Q_HA_HO294, fun _ => (by (with_reducible repeat (first | apply Kd.R_alloc | apply Kd.R_drewN | apply Kd.R_drew)); exact aY.out), fun _ => ⟨_, rfl⟩, Q_X6_, fun h0_ => absurd ((hoff 14 (by kernel_rfl)).symm.trans h0_) (by decide)⟩
                  refine steps_cons ?_ ?_
                  ·rintro b a w' ⟨v293, adz_v293, v297, adz_v297, m6_, m14_, ha, Q_BK282, Q_BK283, Q_BK286, Q_BK291, Q_HB, ak, Q_HA_HO294, al, Q_HA_HO298, Q_X6_, Q_X14_⟩ hb_ hon hoff
                   refine ⟨_, rfl, fun K hK => ?_⟩
                   have e104 : a.tmps[104]? = some (.int .i64 aG) := by rw [ha]; exact (putSel_off rfl).trans rfl
                   replace ha := A_.mk ha
                   have ab := A_.mk Q_BK282
                   have ad := A_.mk Q_BK283
                   have ac := A_.mk Q_BK286
                   have ag := A_.mk Q_BK291
                   have HB := A_.mk Q_HB
                   refine value_ (w1 := w') (v := .int .i64 aD) (by rfl) rfl ?_ ?_
                   ·go_simp
                    (try simp only [i64_w])
                    try rfl
                   refine hK.out _ _ ⟨v293, adz_v293, v297, adz_v297, m6_, m14_, (by rw [ha.out]; exact putSel_upk 7 hb_ rfl rfl rfl), Q_BK282, Q_BK283, Q_BK286, Q_BK291, Q_HB, ak, Q_HA_HO294, al, Q_HA_HO298, Q_X6_, fun h0_ => absurd ((hoff 14 (by kernel_rfl)).symm.trans h0_) (by decide)⟩
                  refine steps_cons ?_ ?_
                  ·rintro b a w' ⟨v293, adz_v293, v297, adz_v297, m6_, m14_, ha, Q_BK282, Q_BK283, Q_BK286, Q_BK291, Q_HB, ak, Q_HA_HO294, al, Q_HA_HO298, Q_X6_, Q_X14_⟩ hb_ hon hoff
                   refine ⟨_, rfl, fun K hK => ?_⟩
                   have e103 : a.tmps[103]? = some (v297) := by rw [ha]; exact putSel_on (e := (11, 103, v297)) 6 rfl rfl (hon 11 (by kernel_rfl)) rfl
                   have e105 : a.tmps[105]? = some (.int .i64 aD) := by rw [ha]; exact putSel_on (e := (13, 105, .int .i64 aD)) 7 rfl rfl (hon 13 (by kernel_rfl)) rfl
                   replace ha := A_.mk ha
                   have ab := A_.mk Q_BK282
                   have ad := A_.mk Q_BK283
                   have ac := A_.mk Q_BK286
                   have ag := A_.mk Q_BK291
                   have HB := A_.mk Q_HB
                   have aY := A_.mk (al (hon 11 (by kernel_rfl)))
                   have HA_HO298 := A_.mk (Q_HA_HO298 (hon 11 (by kernel_rfl)))
                   obtain ⟨c_, hv_⟩ := HA_HO298.out
                   rw [hv_] at e103
                   refine value_ (w1 := w') (v := .pointer (some (adz_v297.add ((aD)).toNat))) (by rfl) rfl ?_ ?_
                   ·go_simp
                    (try simp only [i64_w])
                    try rfl
                   refine hK.out _ _ ⟨v293, adz_v293, v297, adz_v297, m6_, (.pointer (some (adz_v297.add ((aD)).toNat))), (by rw [ha.out]; exact putSel_upk 8 hb_ rfl rfl rfl), Q_BK282, Q_BK283, Q_BK286, Q_BK291, Q_HB, ak, Q_HA_HO294, al, Q_HA_HO298, Q_X6_, fun _ => rfl⟩
                  refine steps_cons ?_ ?_
                  ·rintro b a w' ⟨v293, adz_v293, v297, adz_v297, m6_, m14_, ha, Q_BK282, Q_BK283, Q_BK286, Q_BK291, Q_HB, ak, Q_HA_HO294, al, Q_HA_HO298, Q_X6_, Q_X14_⟩ hb_ hon hoff
                   refine ⟨_, rfl, fun K hK => ?_⟩
                   have e106 : a.tmps[106]? = some (m14_) := by rw [ha]; exact putSel_on (e := (14, 106, m14_)) 8 rfl rfl (hon 14 (by kernel_rfl)) rfl
                   rw [Q_X14_ (hon 14 (by kernel_rfl))] at e106
                   replace ha := A_.mk ha
                   have ab := A_.mk Q_BK282
                   have ad := A_.mk Q_BK283
                   have ac := A_.mk Q_BK286
                   have ag := A_.mk Q_BK291
                   have HB := A_.mk Q_HB
                   have aY := A_.mk (al (hon 11 (by kernel_rfl)))
                   have HA_HO298 := A_.mk (Q_HA_HO298 (hon 11 (by kernel_rfl)))
                   obtain ⟨c_, hv_⟩ := HA_HO298.out
                   have hF_ := aY.out
                   rw [hv_] at hF_
                   obtain ⟨ad_, ea_, hx_⟩ := Kd.at_int (Kd.R_reads' hF_).2.2 (aD) (of_eq_true pi299) (of_eq_true qi299)
                   cases ea_
                   refine value_ (w1 := w') (v := .int .i64 (rd ap (aD))) (by rfl) rfl ?_ ?_
                   ·go_simp
                    (try simp only [i64_w])
                    try rfl
                   refine hK.out _ _ ⟨v293, adz_v293, v297, adz_v297, m6_, m14_, (by rw [ha.out]; exact putSel_upk 9 hb_ rfl rfl rfl), Q_BK282, Q_BK283, Q_BK286, Q_BK291, Q_HB, ak, Q_HA_HO294, al, Q_HA_HO298, Q_X6_, Q_X14_⟩
                  refine steps_cons ?_ ?_
                  ·rintro b a w' ⟨v293, adz_v293, v297, adz_v297, m6_, m14_, ha, Q_BK282, Q_BK283, Q_BK286, Q_BK291, Q_HB, ak, Q_HA_HO294, al, Q_HA_HO298, Q_X6_, Q_X14_⟩ hb_ hon hoff
                   refine ⟨_, rfl, fun K hK => ?_⟩
                   have e99 : a.tmps[99]? = some (.int .i64 (rd aA (ao))) := by rw [ha]; exact putSel_on (e := (7, 99, .int .i64 (rd aA (ao)))) 4 rfl rfl (hon 7 (by kernel_rfl)) rfl
                   have e107 : a.tmps[107]? = some (.int .i64 (rd ap (aD))) := by rw [ha]; exact putSel_on (e := (15, 107, .int .i64 (rd ap (aD)))) 9 rfl rfl (hon 15 (by kernel_rfl)) rfl
                   replace ha := A_.mk ha
                   have ab := A_.mk Q_BK282
                   have ad := A_.mk Q_BK283
                   have ac := A_.mk Q_BK286
                   have ag := A_.mk Q_BK291
                   have HB := A_.mk Q_HB
                   have aX := A_.mk (ak (hon 3 (by kernel_rfl)))
                   have HA_HO294 := A_.mk (Q_HA_HO294 (hon 3 (by kernel_rfl)))
                   have aY := A_.mk (al (hon 11 (by kernel_rfl)))
                   have HA_HO298 := A_.mk (Q_HA_HO298 (hon 11 (by kernel_rfl)))
                   refine value_ (w1 := w') (v := .int .i64 (wrap64 ((rd aA (ao)) * (rd ap (aD))))) (by rfl) rfl ?_ ?_
                   ·go_simp
                    (try simp only [i64_w])
                    try rfl
                   refine hK.out _ _ ⟨v293, adz_v293, v297, adz_v297, m6_, m14_, (by rw [ha.out]; exact putSel_upk 10 hb_ rfl rfl rfl), Q_BK282, Q_BK283, Q_BK286, Q_BK291, Q_HB, ak, Q_HA_HO294, al, Q_HA_HO298, Q_X6_, Q_X14_⟩
                  refine steps_cons ?_ ?_
                  ·rintro b a w' ⟨v293, adz_v293, v297, adz_v297, m6_, m14_, ha, Q_BK282, Q_BK283, Q_BK286, Q_BK291, Q_HB, ak, Q_HA_HO294, al, Q_HA_HO298, Q_X6_, Q_X14_⟩ hb_ hon hoff
                   refine ⟨_, rfl, fun K hK => ?_⟩
                   have e108 : a.tmps[108]? = some (.int .i64 (wrap64 ((rd aA (ao)) * (rd ap (aD))))) := by rw [ha]; exact putSel_on (e := (16, 108, .int .i64 (wrap64 ((rd aA (ao)) * (rd ap (aD)))))) 10 rfl rfl (hon 16 (by kernel_rfl)) rfl
                   replace ha := A_.mk ha
                   have ab := A_.mk Q_BK282
                   have ad := A_.mk Q_BK283
                   have ac := A_.mk Q_BK286
                   have ag := A_.mk Q_BK291
                   have HB := A_.mk Q_HB
                   have aX := A_.mk (ak (hon 3 (by kernel_rfl)))
                   have HA_HO294 := A_.mk (Q_HA_HO294 (hon 3 (by kernel_rfl)))
                   have aY := A_.mk (al (hon 11 (by kernel_rfl)))
                   have HA_HO298 := A_.mk (Q_HA_HO298 (hon 11 (by kernel_rfl)))
                   refine value_ (w1 := w') (v := .int .i64 (wrap64 ((rd aA (ao)) * (rd ap (aD))))) (by rfl) rfl ?_ ?_
                   ·go_simp
                    (try simp only [i64_w])
                    try rfl
                   refine hK.out _ _ ⟨v293, adz_v293, v297, adz_v297, m6_, m14_, (by rw [ha.out]; exact putSel_upk 11 hb_ rfl rfl rfl), Q_BK282, Q_BK283, Q_BK286, Q_BK291, Q_HB, ak, Q_HA_HO294, al, Q_HA_HO298, Q_X6_, Q_X14_⟩
                  exact steps_nil
                 rintro b a bF hall ⟨v293, adz_v293, v297, adz_v297, m6_, m14_, ha, Q_BK282, Q_BK283, Q_BK286, Q_BK291, Q_HB, ak, Q_HA_HO294, al, Q_HA_HO298, Q_X6_, Q_X14_⟩
                 clear ab ad ac ag HB
                 have eC := hall 1 (by kernel_rfl)
                 have b8 := hall 3 (by kernel_rfl)
                 have eD := hall 5 (by kernel_rfl)
                 have cw := hall 6 (by kernel_rfl)
                 have eE := hall 7 (by kernel_rfl)
                 have eF := hall 9 (by kernel_rfl)
                 have bK := hall 11 (by kernel_rfl)
                 have cF := hall 13 (by kernel_rfl)
                 have b9 := hall 14 (by kernel_rfl)
                 have cG := hall 15 (by kernel_rfl)
                 have cH := hall 16 (by kernel_rfl)
                 have cI := hall 17 (by kernel_rfl)
                 subst ha
                 obtain rfl := Q_X6_ cw
                 obtain rfl := Q_X14_ b9
                 simp only [putSel, eC, b8, eD, cw, eE, eF, bK, cF, b9, cG, cH, cI, if_true, Act.put, List.setIfInBounds_toArray, List.set_cons_zero, List.set_cons_succ]
                 have ab := A_.mk Q_BK282
                 clear Q_BK282
                 have ad := A_.mk Q_BK283
                 clear Q_BK283
                 have ac := A_.mk Q_BK286
                 clear Q_BK286
                 have ag := A_.mk Q_BK291
                 clear Q_BK291
                 have HB := A_.mk Q_HB
                 clear Q_HB
                 have aX := A_.mk (ak b8)
                 clear ak
                 have HA_HO294 := A_.mk (Q_HA_HO294 b8)
                 clear Q_HA_HO294
                 have aY := A_.mk (al bK)
                 clear al
                 have HA_HO298 := A_.mk (Q_HA_HO298 bK)
                 clear Q_HA_HO298
                 clear hall eC b8 eD cw eE eF bK cF b9 cG cH cI
                 obtain ⟨lj, eo96⟩ := HA_HO294.out
                 clear HA_HO294
                 subst eo96
                 obtain ⟨lk, eo97⟩ := HA_HO298.out
                 clear HA_HO298
                 subst eo97
                 have k8 := bu.out
                 have k9 := bv.out
                 have la := ai.out
                 have lb := bw.out
                 have jL := bb.out
                 have jM := cg.out
                 have iC : bF.cell? ⟨ae, 0, none⟩ = some (.int .i64 aq) := (D_ ab.out 0).trans rfl
                 have iD : bF.cell? ⟨ae, 1, none⟩ = some (.int .i64 ar) := (D_ ab.out 1).trans rfl
                 have iE : bF.cell? ⟨ae, 2, none⟩ = some (.int .i64 au) := (D_ ab.out 2).trans rfl
                 have iF : bF.cell? ⟨ae, 3, none⟩ = some (.int .i64 av) := (D_ ab.out 3).trans rfl
                 have iG : bF.cell? ⟨ae, 4, none⟩ = some (.int .i64 aw) := (D_ ab.out 4).trans rfl
                 have iH : bF.cell? ⟨ae, 5, none⟩ = some (.int .i64 ax) := (D_ ab.out 5).trans rfl
                 have iI : bF.cell? ⟨ae, 6, none⟩ = some (.int .i64 ay) := (D_ ab.out 6).trans rfl
                 have iJ : bF.cell? ⟨ae, 7, none⟩ = some (.int .i64 az) := (D_ ab.out 7).trans rfl
                 have iK : bF.cell? ⟨ae, 8, none⟩ = some (.slice (some ad285) aa.length aP) := (D_ ab.out 8).trans rfl
                 have iL : bF.cell? ⟨ae, 9, none⟩ = some (.slice aQ an.length aR) := (D_ ab.out 9).trans rfl
                 have iw : bF.cell? ⟨ae, 10, none⟩ = some (.slice aK aj.length aL) := (D_ ab.out 10).trans rfl
                 have iM := B_ ab.out 0
                 have iN := B_ ab.out 1
                 have iO := B_ ab.out 2
                 have iP := B_ ab.out 3
                 have iQ := B_ ab.out 4
                 have iR := B_ ab.out 5
                 have iS := B_ ab.out 6
                 have iT := B_ ab.out 7
                 have iU := B_ ab.out 8
                 have iV := B_ ab.out 9
                 have ix := B_ ab.out 10
                 have jN := bg.out
                 have jO := ah.out
                 have jP := bd.out
                 have jQ := ci.out
                 have iW : bF.cell? ⟨af, 0, none⟩ = some (.int .i64 ((Z_ aa a1).f0)) := (D_ ac.out 0).trans rfl
                 have iX : bF.cell? ⟨af, 1, none⟩ = some (.int .i64 ((Z_ aa a1).f1.f0)) := (D_ ac.out 1).trans rfl
                 have iY : bF.cell? ⟨af, 2, none⟩ = some (.int .i64 ((Z_ aa a1).f1.f1)) := (D_ ac.out 2).trans rfl
                 have iZ : bF.cell? ⟨af, 3, none⟩ = some (.int .i64 ((Z_ aa a1).f1.f2)) := (D_ ac.out 3).trans rfl
                 have i0 : bF.cell? ⟨af, 4, none⟩ = some (.int .i64 ((Z_ aa a1).f1.f3)) := (D_ ac.out 4).trans rfl
                 have i1 : bF.cell? ⟨af, 5, none⟩ = some (.int .i64 ((Z_ aa a1).f2.f0)) := (D_ ac.out 5).trans rfl
                 have i2 : bF.cell? ⟨af, 6, none⟩ = some (.int .i64 ((Z_ aa a1).f2.f1)) := (D_ ac.out 6).trans rfl
                 have i3 : bF.cell? ⟨af, 7, none⟩ = some (.int .i64 ((Z_ aa a1).f2.f2)) := (D_ ac.out 7).trans rfl
                 have i4 := B_ ac.out 0
                 have i5 := B_ ac.out 1
                 have i6 := B_ ac.out 2
                 have i7 := B_ ac.out 3
                 have i8 := B_ ac.out 4
                 have i9 := B_ ac.out 5
                 have ja := B_ ac.out 6
                 have jb := B_ ac.out 7
                 try go_wp2_with (first | ((with_reducible refine P_ (f := 15) rfl ?_); refine R_ (some 132) rfl rfl Tryd.func15 (by kernel_rfl) rfl #[.agg #[.int .i64 aq, .int .i64 ar, .int .i64 au, .int .i64 av, .int .i64 aw, .int .i64 ax, .int .i64 ay, .int .i64 az, .slice (some ad285) aa.length aP, .slice aQ an.length aR, .slice aK aj.length aL], .int .i64 ((Z_ aa a1).f2.f0), .int .i64 (wrap64 ((wrap64 (((Z_ aa a1).f2.f1) + bx)) + (ao))), .int .i64 (wrap64 ((wrap64 (((Z_ aa a1).f2.f2) + bA)) + (aD)))] rfl (by (try simp only [List.map_toArray, List.map_cons, List.map_nil]); first | done | (simp only [gS, eo]; rfl) | rfl | (simp only [List.length_drop, List.length_take]; rfl)) ?_; (with_reducible refine (pochoirref30_Texel.calls k3 aq ar au av aw ax ay az _ _ aa _ _ an _ _ aj ((Z_ aa a1).f2.f0) (wrap64 ((wrap64 (((Z_ aa a1).f2.f1) + bx)) + (ao))) (wrap64 ((wrap64 (((Z_ aa a1).f2.f2) + bA)) + (aD))) ef eG gT g3 iA _ ?side1 ?side2 ?side3 ?side4 ?side5 ?side6 A87.out).mono ?_); (case side1 => repeat (first | exact (Kd.C_below cy.out HB.out) | (with_reducible refine Kd.C_alloc ?_ _) | (with_reducible refine Kd.C_drewN ?_ _) | (with_reducible refine Kd.C_drew ?_))); (case side2 => exact ek.out); (case side3 => repeat (first | exact (Kd.C_below el.out HB.out) | (with_reducible refine Kd.C_alloc ?_ _) | (with_reducible refine Kd.C_drewN ?_ _) | (with_reducible refine Kd.C_drew ?_))); (case side4 => exact em.out); (case side5 => repeat (first | exact (Kd.C_below cz.out HB.out) | (with_reducible refine Kd.C_alloc ?_ _) | (with_reducible refine Kd.C_drewN ?_ _) | (with_reducible refine Kd.C_drew ?_))); (case side6 => exact cA.out); rintro e ll ⟨rfl, hb⟩; refine ⟨_, rfl, ?_⟩; have aT := A_.mk (Kd.R_below (by (with_reducible repeat (first | apply Kd.R_alloc | apply Kd.R_drewN | apply Kd.R_drew)); exact aX.out) hb); have aU := A_.mk (Kd.R_below (by (with_reducible repeat (first | apply Kd.R_alloc | apply Kd.R_drewN | apply Kd.R_drew)); exact aY.out) hb); have aV := A_.mk (F_ (g := ae) (o := .cells #[.int .i64 aq, .int .i64 ar, .int .i64 au, .int .i64 av, .int .i64 aw, .int .i64 ax, .int .i64 ay, .int .i64 az, .slice (some ad285) aa.length aP, .slice aQ an.length aR, .slice aK aj.length aL] 28 (0, 0)) (by refine kB ?_; exact ab.out) hb); have aZ := A_.mk (F_ (g := aH) (o := .cells #[.int .i64 0, .int .i64 0, .int .i64 0, .int .i64 0] 32 (0, 0)) (by refine kB ?_; exact ad.out) hb); have bf := A_.mk (F_ (g := af) (o := .cells #[.int .i64 ((Z_ aa a1).f0), .int .i64 ((Z_ aa a1).f1.f0), .int .i64 ((Z_ aa a1).f1.f1), .int .i64 ((Z_ aa a1).f1.f2), .int .i64 ((Z_ aa a1).f1.f3), .int .i64 ((Z_ aa a1).f2.f0), .int .i64 ((Z_ aa a1).f2.f1), .int .i64 ((Z_ aa a1).f2.f2)] 54 (0, 0)) (by refine kB ?_; exact ac.out) hb); have bs := A_.mk (F_ (g := aO) (o := .cells #[.int .i64 aB, .int .i64 aC, .int .i64 aE, .int .i64 aF] 32 (0, 0)) (by refine kB ?_; exact ag.out) hb); have bM := A_.mk (E_ (by exact lB HB.out) hb); clear aX; clear aY; clear ab; clear ad; clear ac; clear ag; clear HB; have aX := aT; have aY := aU; have ab := aV; have ad := aZ; have ac := bf; have ag := bs; have HB := bM; clear aT aU aV aZ bf bs bM; (try clear hb); (try clear gW); (try clear hk); (try clear hi)) | ((with_reducible refine O_ (N := 18) rfl ?_); (try (refine Q_ (by rfl) ?_; dsimp only)); refine N_ ?hg (N := 18) ?hd (cs := #[.int .u8 0, .int .u8 0, .int .u8 0, .int .u8 0]) (t := 56) ?hr ?_; (case hd => rfl); (case hg => rfl); (case hr => first | (go_simp; done) | (go_simp; rfl)); intro bB hg cj hbox hb; have aT := A_.mk (Kd.R_below (by (with_reducible repeat (first | apply Kd.R_alloc | apply Kd.R_drewN | apply Kd.R_drew)); exact aX.out) hb); have aU := A_.mk (Kd.R_below (by (with_reducible repeat (first | apply Kd.R_alloc | apply Kd.R_drewN | apply Kd.R_drew)); exact aY.out) hb); have aV := A_.mk (F_ (g := ae) (o := .cells #[.int .i64 aq, .int .i64 ar, .int .i64 au, .int .i64 av, .int .i64 aw, .int .i64 ax, .int .i64 ay, .int .i64 az, .slice (some ad285) aa.length aP, .slice aQ an.length aR, .slice aK aj.length aL] 28 (0, 0)) (by refine kB ?_; exact ab.out) hb); have aZ := A_.mk (F_ (g := aH) (o := .cells #[.int .i64 0, .int .i64 0, .int .i64 0, .int .i64 0] 32 (0, 0)) (by refine kB ?_; exact ad.out) hb); have bf := A_.mk (F_ (g := af) (o := .cells #[.int .i64 ((Z_ aa a1).f0), .int .i64 ((Z_ aa a1).f1.f0), .int .i64 ((Z_ aa a1).f1.f1), .int .i64 ((Z_ aa a1).f1.f2), .int .i64 ((Z_ aa a1).f1.f3), .int .i64 ((Z_ aa a1).f2.f0), .int .i64 ((Z_ aa a1).f2.f1), .int .i64 ((Z_ aa a1).f2.f2)] 54 (0, 0)) (by refine kB ?_; exact ac.out) hb); have bs := A_.mk (F_ (g := aO) (o := .cells #[.int .i64 aB, .int .i64 aC, .int .i64 aE, .int .i64 aF] 32 (0, 0)) (by refine kB ?_; exact ag.out) hb); have bM := A_.mk (E_ (by exact lB HB.out) hb); have eg := A_.mk (hbox); have eh := A_.mk ((by rw [hg]; exact (G_ (by exact lB HB.out)) : w.heap.size ≤ bB)); have ei := A_.mk ((by rw [hg]; exact (G_ (by exact lB HB.out)) : w.heap.size ≤ bB)); have ez := A_.mk ((by rw [hg]; exact Nat.ne_of_lt (M_ (g := ae) (o := .cells #[.int .i64 aq, .int .i64 ar, .int .i64 au, .int .i64 av, .int .i64 aw, .int .i64 ax, .int .i64 ay, .int .i64 az, .slice (some ad285) aa.length aP, .slice aQ an.length aR, .slice aK aj.length aL] 28 (0, 0)) (by refine kB ?_; exact ab.out)) : ae ≠ bB)); have eA := A_.mk ((by rw [hg]; exact Nat.ne_of_gt (M_ (g := ae) (o := .cells #[.int .i64 aq, .int .i64 ar, .int .i64 au, .int .i64 av, .int .i64 aw, .int .i64 ax, .int .i64 ay, .int .i64 az, .slice (some ad285) aa.length aP, .slice aQ an.length aR, .slice aK aj.length aL] 28 (0, 0)) (by refine kB ?_; exact ab.out)) : bB ≠ ae)); have eB := A_.mk ((by rw [hg]; exact Nat.ne_of_lt (M_ (g := aH) (o := .cells #[.int .i64 0, .int .i64 0, .int .i64 0, .int .i64 0] 32 (0, 0)) (by refine kB ?_; exact ad.out)) : aH ≠ bB)); have il := A_.mk ((by rw [hg]; exact Nat.ne_of_gt (M_ (g := aH) (o := .cells #[.int .i64 0, .int .i64 0, .int .i64 0, .int .i64 0] 32 (0, 0)) (by refine kB ?_; exact ad.out)) : bB ≠ aH)); have im := A_.mk ((by rw [hg]; exact Nat.ne_of_lt (M_ (g := af) (o := .cells #[.int .i64 ((Z_ aa a1).f0), .int .i64 ((Z_ aa a1).f1.f0), .int .i64 ((Z_ aa a1).f1.f1), .int .i64 ((Z_ aa a1).f1.f2), .int .i64 ((Z_ aa a1).f1.f3), .int .i64 ((Z_ aa a1).f2.f0), .int .i64 ((Z_ aa a1).f2.f1), .int .i64 ((Z_ aa a1).f2.f2)] 54 (0, 0)) (by refine kB ?_; exact ac.out)) : af ≠ bB)); have io := A_.mk ((by rw [hg]; exact Nat.ne_of_gt (M_ (g := af) (o := .cells #[.int .i64 ((Z_ aa a1).f0), .int .i64 ((Z_ aa a1).f1.f0), .int .i64 ((Z_ aa a1).f1.f1), .int .i64 ((Z_ aa a1).f1.f2), .int .i64 ((Z_ aa a1).f1.f3), .int .i64 ((Z_ aa a1).f2.f0), .int .i64 ((Z_ aa a1).f2.f1), .int .i64 ((Z_ aa a1).f2.f2)] 54 (0, 0)) (by refine kB ?_; exact ac.out)) : bB ≠ af)); have ip := A_.mk ((by rw [hg]; exact Nat.ne_of_lt (M_ (g := aO) (o := .cells #[.int .i64 aB, .int .i64 aC, .int .i64 aE, .int .i64 aF] 32 (0, 0)) (by refine kB ?_; exact ag.out)) : aO ≠ bB)); have iq := A_.mk ((by rw [hg]; exact Nat.ne_of_gt (M_ (g := aO) (o := .cells #[.int .i64 aB, .int .i64 aC, .int .i64 aE, .int .i64 aF] 32 (0, 0)) (by refine kB ?_; exact ag.out)) : bB ≠ aO)); clear aX; clear aY; clear ab; clear ad; clear ac; clear ag; clear HB; have aX := aT; have aY := aU; have ab := aV; have ad := aZ; have ac := bf; have ag := bs; have HB := bM; have bO := eg; have lc := eh; have iv := ei; have bG := ez; have gX := eA; have bH := eB; have gY := il; have bI := im; have gZ := io; have bJ := ip; have g0 := iq; clear aT aU aV aZ bf bs bM eg eh ei ez eA eB il im io ip iq; clear hb hbox hg; have jR := gX.out; have jS := bG.out; have jT := gY.out; have jU := bH.out; have jV := gZ.out; have jW := bI.out; have jX := g0.out; have jY := bJ.out; have jc : cj.cell? ⟨bB, 0, none⟩ = some (.int .u8 0) := (D_ bO.out 0).trans rfl; have jd : cj.cell? ⟨bB, 1, none⟩ = some (.int .u8 0) := (D_ bO.out 1).trans rfl; have je : cj.cell? ⟨bB, 2, none⟩ = some (.int .u8 0) := (D_ bO.out 2).trans rfl; have jf : cj.cell? ⟨bB, 3, none⟩ = some (.int .u8 0) := (D_ bO.out 3).trans rfl; have jg := B_ bO.out 0; have jh := B_ bO.out 1; have ji := B_ bO.out 2; have jj := B_ bO.out 3; have jZ := ch.out; have j0 := bc.out; have jk : cj.cell? ⟨aO, 0, none⟩ = some (.int .i64 aB) := (D_ ag.out 0).trans rfl; have jl : cj.cell? ⟨aO, 1, none⟩ = some (.int .i64 aC) := (D_ ag.out 1).trans rfl; have jm : cj.cell? ⟨aO, 2, none⟩ = some (.int .i64 aE) := (D_ ag.out 2).trans rfl; have jn : cj.cell? ⟨aO, 3, none⟩ = some (.int .i64 aF) := (D_ ag.out 3).trans rfl; have jo := B_ ag.out 0; have jp := B_ ag.out 1; have jq := B_ ag.out 2; have jr := B_ ag.out 3))
                 go_roundg k3
                 case measure => have := cB.out; have := gR.out; have := HK3.out; omega
                 case rel => exact ⟨(wrap64 (aG + 1)), (wrap64 (aB + (wrap64 ((wrap64 ((rd aA (ao)) * (rd ap (aD)))) * (wrap64 (ef)))))), (wrap64 (aC + (wrap64 ((wrap64 ((rd aA (ao)) * (rd ap (aD)))) * (wrap64 (eG)))))), (wrap64 (aE + (wrap64 ((wrap64 ((rd aA (ao)) * (rd ap (aD)))) * (wrap64 (gT)))))), (wrap64 (aF + (wrap64 ((wrap64 ((rd aA (ao)) * (rd ap (aD)))) * (wrap64 (g3)))))), (by first | rfl | (simp; done) | (simp [*]; done)), H', ⟨by have := cB.out; have := gR.out; have := HK3.out; omega⟩, ⟨by refine kB ?_; refine J_ ?_ bb.out _; refine kB ?_; refine J_ ?_ bb.out _; refine kB ?_; refine J_ ?_ bb.out _; refine kB ?_; refine J_ ?_ bb.out _; refine kB ?_; refine J_ ?_ bG.out _; refine kB ?_; refine J_ ?_ bG.out _; refine kB ?_; refine J_ ?_ bG.out _; refine kB ?_; refine J_ ?_ bG.out _; refine kB ?_; exact ab.out⟩, ⟨by refine kB ?_; refine J_ ?_ bc.out _; refine kB ?_; refine J_ ?_ bc.out _; refine kB ?_; refine J_ ?_ bc.out _; refine kB ?_; refine J_ ?_ bc.out _; refine kB ?_; refine J_ ?_ bH.out _; refine kB ?_; refine J_ ?_ bH.out _; refine kB ?_; refine J_ ?_ bH.out _; refine kB ?_; refine J_ ?_ bH.out _; refine kB ?_; exact ad.out⟩, ⟨by refine kB ?_; refine J_ ?_ bd.out _; refine kB ?_; refine J_ ?_ bd.out _; refine kB ?_; refine J_ ?_ bd.out _; refine kB ?_; refine J_ ?_ bd.out _; refine kB ?_; refine J_ ?_ bI.out _; refine kB ?_; refine J_ ?_ bI.out _; refine kB ?_; refine J_ ?_ bI.out _; refine kB ?_; refine J_ ?_ bI.out _; refine kB ?_; exact ac.out⟩, ⟨by refine kB ?_; refine L_ (cs := #[.int .i64 (wrap64 (aB + (wrap64 ((wrap64 ((rd aA (ao)) * (rd ap (aD)))) * (wrap64 (ef)))))), .int .i64 (wrap64 (aC + (wrap64 ((wrap64 ((rd aA (ao)) * (rd ap (aD)))) * (wrap64 (eG)))))), .int .i64 (wrap64 (aE + (wrap64 ((wrap64 ((rd aA (ao)) * (rd ap (aD)))) * (wrap64 (gT)))))), .int .i64 aF]) ?_ 3 _ rfl; refine kB ?_; refine L_ (cs := #[.int .i64 (wrap64 (aB + (wrap64 ((wrap64 ((rd aA (ao)) * (rd ap (aD)))) * (wrap64 (ef)))))), .int .i64 (wrap64 (aC + (wrap64 ((wrap64 ((rd aA (ao)) * (rd ap (aD)))) * (wrap64 (eG)))))), .int .i64 aE, .int .i64 aF]) ?_ 2 _ rfl; refine kB ?_; refine L_ (cs := #[.int .i64 (wrap64 (aB + (wrap64 ((wrap64 ((rd aA (ao)) * (rd ap (aD)))) * (wrap64 (ef)))))), .int .i64 aC, .int .i64 aE, .int .i64 aF]) ?_ 1 _ rfl; refine kB ?_; refine L_ (cs := #[.int .i64 aB, .int .i64 aC, .int .i64 aE, .int .i64 aF]) ?_ 0 _ rfl; refine kB ?_; refine J_ ?_ bJ.out _; refine kB ?_; refine J_ ?_ bJ.out _; refine kB ?_; refine J_ ?_ bJ.out _; refine kB ?_; refine J_ ?_ bJ.out _; refine kB ?_; exact ag.out⟩, ⟨by exact lB HB.out⟩⟩
               ·rw [if_neg c75] at H
                exact absurd H (by simp)
              ·rw [if_neg c74] at H
               exact absurd H (by simp)
             ·rw [if_neg c72] at H
              exact absurd H (by simp)
            ·rw [if_neg c71] at H
             exact absurd H (by simp)
           ·rw [if_neg c69] at H
            have ir : decide (aG < 4) = false := decide_eq_false c69
            clear c69
            simp only [Option.some.injEq, Prod.mk.injEq] at H
            obtain ⟨rfl, rfl, rfl, rfl, rfl⟩ := H
            have j1 := cg.out
            have j2 := bb.out
            have j3 := ch.out
            have j4 := bc.out
            have j5 := ci.out
            have j6 := bd.out
            have js : wr.cell? ⟨aO, 0, none⟩ = some (.int .i64 aB) := (D_ ag.out 0).trans rfl
            have jt : wr.cell? ⟨aO, 1, none⟩ = some (.int .i64 aC) := (D_ ag.out 1).trans rfl
            have ju : wr.cell? ⟨aO, 2, none⟩ = some (.int .i64 aE) := (D_ ag.out 2).trans rfl
            have jv : wr.cell? ⟨aO, 3, none⟩ = some (.int .i64 aF) := (D_ ag.out 3).trans rfl
            have jw := B_ ag.out 0
            have jx := B_ ag.out 1
            have jy := B_ ag.out 2
            have jz := B_ ag.out 3
            have j7 := bv.out
            have j8 := bu.out
            have j9 := ah.out
            have ka := bg.out
            have jA : wr.cell? ⟨aH, 0, none⟩ = some (.int .i64 0) := (D_ ad.out 0).trans rfl
            have jB : wr.cell? ⟨aH, 1, none⟩ = some (.int .i64 0) := (D_ ad.out 1).trans rfl
            have jC : wr.cell? ⟨aH, 2, none⟩ = some (.int .i64 0) := (D_ ad.out 2).trans rfl
            have jD : wr.cell? ⟨aH, 3, none⟩ = some (.int .i64 0) := (D_ ad.out 3).trans rfl
            have jE := B_ ad.out 0
            have jF := B_ ad.out 1
            have jG := B_ ad.out 2
            have jH := B_ ad.out 3
            go_wp2
            refine bodyPost_ret (results_ct rfl _ _ aH 32 #[.int .i64 aB, .int .i64 aC, .int .i64 aE, .int .i64 aF] (0, 0) _ rfl (by refine kB ?_; refine L_ (cs := #[.int .i64 aB, .int .i64 aC, .int .i64 aE, .int .i64 0]) ?_ 3 _ rfl; refine kB ?_; refine L_ (cs := #[.int .i64 aB, .int .i64 aC, .int .i64 0, .int .i64 0]) ?_ 2 _ rfl; refine kB ?_; refine L_ (cs := #[.int .i64 aB, .int .i64 0, .int .i64 0, .int .i64 0]) ?_ 1 _ rfl; refine kB ?_; refine L_ (cs := #[.int .i64 0, .int .i64 0, .int .i64 0, .int .i64 0]) ?_ 0 _ rfl; refine kB ?_; exact ad.out) Tryd.underlying32 rfl (by kernel_rfl)) rfl ?_
            exact ⟨by first | rfl | (simp [errW_none, errW_some] <;> rfl) | (simp [*, errW_none, errW_some] <;> rfl), by exact lB HB.out⟩
     ·rw [if_neg c25] at H
      exact absurd H (by simp)
    ·rw [if_neg c24] at H
     exact absurd H (by simp)

end Go.Proofs.YtjcgmjhcaaaieaaDoor.Pr
