-- printed by a program of this session's (wip/mp.sh), out of the translation; the texts of its folder 'given' are typed by hand
-- shortened (wip/short.py)
import Derived.Test.YtjcgmjhcaaaieaaDoorPr0
import Derived.Test.YtjcgmjhcaaaieaaDoorPr9
import Derived.Test.YtjcgmjhcaaaieaaDoorPr10
import Derived.Test.YtjcgmjhcaaaieaaDoorPr11
import Derived.Test.YtjcgmjhcaaaieaaDoorPr13
namespace Go.Proofs.YtjcgmjhcaaaieaaDoor.Pr
open Go.RowKit Go.Proofs.YtjcgmjhcaaaieaaDoorW.PrintWords Go.Proofs.YtjcgmjhcaaaieaaDoorW.PrintLast Go.Proofs.YtjcgmjhcaaaieaaDoorW.PrintMore
attribute [local go_sem] max2_int min2_int max_two min_two max_three min_three max_four min_four   -- for this text's walks alone
attribute [local go_sem high] eqA32
set_option linter.unusedVariables false
set_option linter.unusedSimpArgs false

/-! ### sample_At: function 8 -/
mutual
def sample_At.j0 : Nat → Int → Int → Int → Bool → Int → Int → Int → Int → Int → Int → Int → Int → List (S54) → List (S84) → List ByteArray → Option (Int × Int × Int × Int × Int)
 | 0, _, _, _, _, _, _, _, _, _, _, _, _, _, _, _ => none
 | k + 1, x1, x2, x3, kD, bC, bD, bE, bF, bG, bH, bv, bI, ap, bJ, bu => if kD = true then (some (0, 0, 0, 0, 1)) else (if 0 ≤ x1 then (if x1 < (ap.length : Int) then (if ((Z_ ap x1).f1.f2) = 0 then (sample_At.j1 k x2 x3 true bC bD bE bF bG bH bv bI ap bJ bu ((Z_ ap x1).f0) ((Z_ ap x1).f1.f0) ((Z_ ap x1).f1.f1) ((Z_ ap x1).f1.f2) ((Z_ ap x1).f1.f3) ((Z_ ap x1).f2.f0) ((Z_ ap x1).f2.f1) ((Z_ ap x1).f2.f2)) else (if x2 < 0 then (sample_At.j1 k x2 x3 true bC bD bE bF bG bH bv bI ap bJ bu ((Z_ ap x1).f0) ((Z_ ap x1).f1.f0) ((Z_ ap x1).f1.f1) ((Z_ ap x1).f1.f2) ((Z_ ap x1).f1.f3) ((Z_ ap x1).f2.f0) ((Z_ ap x1).f2.f1) ((Z_ ap x1).f2.f2)) else (if x2 > (wrap64 (256 * (wrap64 (((Z_ ap x1).f1.f2) - 1)))) then (sample_At.j1 k x2 x3 true bC bD bE bF bG bH bv bI ap bJ bu ((Z_ ap x1).f0) ((Z_ ap x1).f1.f0) ((Z_ ap x1).f1.f1) ((Z_ ap x1).f1.f2) ((Z_ ap x1).f1.f3) ((Z_ ap x1).f2.f0) ((Z_ ap x1).f2.f1) ((Z_ ap x1).f2.f2)) else (if x3 < 0 then (sample_At.j1 k x2 x3 true bC bD bE bF bG bH bv bI ap bJ bu ((Z_ ap x1).f0) ((Z_ ap x1).f1.f0) ((Z_ ap x1).f1.f1) ((Z_ ap x1).f1.f2) ((Z_ ap x1).f1.f3) ((Z_ ap x1).f2.f0) ((Z_ ap x1).f2.f1) ((Z_ ap x1).f2.f2)) else (sample_At.j1 k x2 x3 (decide (x3 > (wrap64 (256 * (wrap64 (((Z_ ap x1).f1.f3) - 1)))))) bC bD bE bF bG bH bv bI ap bJ bu ((Z_ ap x1).f0) ((Z_ ap x1).f1.f0) ((Z_ ap x1).f1.f1) ((Z_ ap x1).f1.f2) ((Z_ ap x1).f1.f3) ((Z_ ap x1).f2.f0) ((Z_ ap x1).f2.f1) ((Z_ ap x1).f2.f2)))))) else (none)) else (none))
def sample_At.j1 : Nat → Int → Int → Bool → Int → Int → Int → Int → Int → Int → Int → Int → List (S54) → List (S84) → List ByteArray → Int → Int → Int → Int → Int → Int → Int → Int → Option (Int × Int × Int × Int × Int)
 | 0, _, _, _, _, _, _, _, _, _, _, _, _, _, _, _, _, _, _, _, _, _, _ => none
 | k + 1, x2, x3, kE, bC, bD, bE, bF, bG, bH, bv, bI, ap, bJ, bu, iw, ix, iy, eJ, eK, bK, cK, cL => if kE = true then (some (0, 0, 0, 0, 7)) else (if 0 ≤ bK then (if bK < (bu.length : Int) then ((sample_part.f x2 eJ).bind fun bB => ((sample_part.f x3 eK).bind fun bs => ((sample_sampler_row.f (rdOf ByteArray.empty bu bK) bv bK cK cL bB.1 bs.1 bB.2).bind fun aD => (if bs.2 = 0 then ((sample_mixed.f aD.1 aD.2.1 aD.2.2.1 aD.2.2.2 aD.1 aD.2.1 aD.2.2.1 aD.2.2.2 0).bind fun ba => (some (ba.1, ba.2.1, ba.2.2.1, ba.2.2.2, 0))) else ((sample_sampler_row.f (rdOf ByteArray.empty bu bK) bv bK cK cL bB.1 (wrap64 (bs.1 + 1)) bB.2).bind fun bb => ((sample_mixed.f aD.1 aD.2.1 aD.2.2.1 aD.2.2.2 bb.1 bb.2.1 bb.2.2.1 bb.2.2.2 bs.2).bind fun aU => (some (aU.1, aU.2.1, aU.2.2.1, aU.2.2.2, 0)))))))) else (none)) else (none))
end
def sample_At.f (k : Nat) (aw : Int) (ax : Int) (ay : Int) (az : Int) (aA : Int) (aB : Int) (ao : Int) (aC : Int) (aa : List (S54)) (av : List (S84)) (aj : List ByteArray) (a1 : Int) (a2 : Int) (a3 : Int) : Option (Int × Int × Int × Int × Int) := (atlas_May.f k aw ax ay az aA aB ao aC aa av aj).bind fun cj => (if cj = true then (if a1 < 0 then (sample_At.j0 k a1 a2 a3 true aw ax ay az aA aB ao aC aa av aj) else (sample_At.j0 k a1 a2 a3 (decide (a1 ≥ (aa.length : Int))) aw ax ay az aA aB ao aC aa av aj)) else (sample_At.j0 k a1 a2 a3 true aw ax ay az aA aB ao aC aa av aj))
theorem sample_At.mono_l : ∀ k, (∀ y0 y1 y2 y3 y4 y5 y6 y7 y8 y9 cp cq cr ct cu, LeO (sample_At.j0 k y0 y1 y2 y3 y4 y5 y6 y7 y8 y9 cp cq cr ct cu) (sample_At.j0 (k + 1) y0 y1 y2 y3 y4 y5 y6 y7 y8 y9 cp cq cr ct cu)) ∧ (∀ y0 y1 y2 y3 y4 y5 y6 y7 y8 y9 cp cq cr ct cu gN gO gP gQ gR gS gT, LeO (sample_At.j1 k y0 y1 y2 y3 y4 y5 y6 y7 y8 y9 cp cq cr ct cu gN gO gP gQ gR gS gT) (sample_At.j1 (k + 1) y0 y1 y2 y3 y4 y5 y6 y7 y8 y9 cp cq cr ct cu gN gO gP gQ gR gS gT))
 | 0 => ⟨fun _ _ _ _ _ _ _ _ _ _ _ _ _ _ _ r h => by simp [sample_At.j0] at h, fun _ _ _ _ _ _ _ _ _ _ _ _ _ _ _ _ _ _ _ _ _ _ r h => by simp [sample_At.j1] at h⟩
 | k + 1 => by
  obtain ⟨ih0, ih1⟩ := sample_At.mono_l k
  refine ⟨?_, ?_⟩
  ·intro y0 y1 y2 y3 y4 y5 y6 y7 y8 y9 cp cq cr ct cu
   unfold sample_At.j0
   repeat' first
   | (with_reducible exact ih0 _ _ _ _ _ _ _ _ _ _ _ _ _ _ _)
   | (with_reducible exact ih1 _ _ _ _ _ _ _ _ _ _ _ _ _ _ _ _ _ _ _ _ _ _)
   | (with_reducible exact atlas_May.mono _ _ _ _ _ _ _ _ _ _ _ _)
   | (with_reducible exact LeO.refl _)
   | (with_reducible exact LeO.none _)
   | (with_reducible refine LeO.ite ?_ ?_)
   | (with_reducible refine LeO.bind ?_ (fun _ => ?_))
   | exact ih0 _ _ _ _ _ _ _ _ _ _ _ _ _ _ _
   | exact ih1 _ _ _ _ _ _ _ _ _ _ _ _ _ _ _ _ _ _ _ _ _ _
   | exact atlas_May.mono _ _ _ _ _ _ _ _ _ _ _ _
   | exact LeO.none _
   | refine LeO.ite ?_ ?_
   | refine LeO.bind ?_ (fun _ => ?_)
  ·intro y0 y1 y2 y3 y4 y5 y6 y7 y8 y9 cp cq cr ct cu gN gO gP gQ gR gS gT
   unfold sample_At.j1
   repeat' first
   | (with_reducible exact ih0 _ _ _ _ _ _ _ _ _ _ _ _ _ _ _)
   | (with_reducible exact ih1 _ _ _ _ _ _ _ _ _ _ _ _ _ _ _ _ _ _ _ _ _ _)
   | (with_reducible exact atlas_May.mono _ _ _ _ _ _ _ _ _ _ _ _)
   | (with_reducible exact LeO.refl _)
   | (with_reducible exact LeO.none _)
   | (with_reducible refine LeO.ite ?_ ?_)
   | (with_reducible refine LeO.bind ?_ (fun _ => ?_))
   | exact ih0 _ _ _ _ _ _ _ _ _ _ _ _ _ _ _
   | exact ih1 _ _ _ _ _ _ _ _ _ _ _ _ _ _ _ _ _ _ _ _ _ _
   | exact atlas_May.mono _ _ _ _ _ _ _ _ _ _ _ _
   | exact LeO.none _
   | refine LeO.ite ?_ ?_
   | refine LeO.bind ?_ (fun _ => ?_)
theorem sample_At.mono : ∀ a0 a1 a2 a3 a4 a5 a6 a7 a8 a9 a10 a11 a12 a13 k, LeO (sample_At.f k a0 a1 a2 a3 a4 a5 a6 a7 a8 a9 a10 a11 a12 a13) (sample_At.f (k + 1) a0 a1 a2 a3 a4 a5 a6 a7 a8 a9 a10 a11 a12 a13) := by
 intro a0 a1 a2 a3 a4 a5 a6 a7 a8 a9 a10 a11 a12 a13 k
 obtain ⟨ih0, ih1⟩ := sample_At.mono_l k
 unfold sample_At.f
 repeat' first
   | (with_reducible exact ih0 _ _ _ _ _ _ _ _ _ _ _ _ _ _ _)
   | (with_reducible exact ih1 _ _ _ _ _ _ _ _ _ _ _ _ _ _ _ _ _ _ _ _ _ _)
   | (with_reducible exact atlas_May.mono _ _ _ _ _ _ _ _ _ _ _ _)
   | (with_reducible exact LeO.refl _)
   | (with_reducible exact LeO.none _)
   | (with_reducible refine LeO.ite ?_ ?_)
   | (with_reducible refine LeO.bind ?_ (fun _ => ?_))
   | exact ih0 _ _ _ _ _ _ _ _ _ _ _ _ _ _ _
   | exact ih1 _ _ _ _ _ _ _ _ _ _ _ _ _ _ _ _ _ _ _ _ _ _
   | exact atlas_May.mono _ _ _ _ _ _ _ _ _ _ _ _
   | exact LeO.none _
   | refine LeO.ite ?_ ?_
   | refine LeO.bind ?_ (fun _ => ?_)
def sample_At.T6 : Bool × List (List Nat × List Nat) := (true, [([], []), ([0], [0]), ([], []), ([2], [2]), ([3], [3]), ([1, 4], [1, 4]), ([5], [5]), ([], []), ([7], [7]), ([8], [8]), ([], []), ([10], [10]), ([6, 9, 11], [6, 9, 11]), ([], []), ([13, 12, 0, 1, 2, 3, 4, 5, 6, 7, 8, 9, 10, 11, 12, 13], [12, 13])])
def sample_At.B6 : List Nat := [0, 1, 0, 4, 12, 31, 63, 0, 128, 384, 0, 1024, 4095, 0, 16383]
theorem sample_At.tab6 : rtab .any (opsOf Tryd.f8 6) = sample_At.T6 := by kernel_rfl
theorem sample_At.bits6 : waitsOk sample_At.T6.2 sample_At.B6 = true := by kernel_rfl
def sample_At.T12 : Bool × List (List Nat × List Nat) := (true, [([], []), ([], []), ([], []), ([], []), ([3], [3]), ([], []), ([1, 2, 4, 5], [1, 2, 4, 5]), ([], []), ([0, 6, 7, 6], [0, 6, 7]), ([8, 8, 0, 1, 2, 3, 4, 5, 6, 7, 8], [8]), ([9, 0, 1, 2, 3, 4, 5, 6, 7, 8, 9], [])])
def sample_At.B12 : List Nat := [0, 0, 0, 0, 8, 0, 62, 0, 255, 511, 1023]
theorem sample_At.tab12 : rtab .any (opsOf Tryd.f8 12) = sample_At.T12 := by kernel_rfl
theorem sample_At.bits12 : waitsOk sample_At.T12.2 sample_At.B12 = true := by kernel_rfl
set_option maxHeartbeats 8000000 in
set_option maxRecDepth 100000 in
theorem sample_At.calls (k : Nat) (aw : Int) (ax : Int) (ay : Int) (az : Int) (aA : Int) (aB : Int) (ao : Int) (aC : Int) (br : Option Addr) (aO : Nat) (aa : List (S54)) (aP : Option Addr) (aQ : Nat) (av : List (S84)) (be : Option Addr) (aF : Nat) (aj : List ByteArray) (a1 : Int) (a2 : Int) (a3 : Int) (r1 : Int) (r2 : Int) (r3 : Int) (r4 : Int) (r5 : Int) (w : World) (ez : Kd.C k54 w br aa.length aa) (eA : aa.length ≤ aO) (eB : Kd.C k84 w aP av.length av) (eC : av.length ≤ aQ) (eq : Kd.C Kd.string w be aj.length aj) (er : aj.length ≤ aF) (h : sample_At.f k aw ax ay az aA aB ao aC aa av aj a1 a2 a3 = some (r1, r2, r3, r4, r5)) :
  Calls Tryd.prog 8 #[.agg #[.int .i64 aw, .int .i64 ax, .int .i64 ay, .int .i64 az, .int .i64 aA, .int .i64 aB, .int .i64 ao, .int .i64 aC, .slice br aa.length aO, .slice aP av.length aQ, .slice be aj.length aF], .int .i64 a1, .int .i64 a2, .int .i64 a3] w fun e w' => e = .returned (.tuple #[.agg #[.int .i64 r1, .int .i64 r2, .int .i64 r3, .int .i64 r4], .int .i64 r5]) ∧ Below w.heap.size w w' := by
 have mh := Tryd.underlying28
 have mi := Tryd.underlying32
 have mj := Tryd.underlying54
 have mk := Tryd.underlying52
 have ml := Tryd.underlying62
 have cn := A_.mk ez
 have eg := A_.mk eA
 clear ez eA
 have eh := A_.mk eB
 have ei := A_.mk eC
 clear eB eC
 have b2 := A_.mk eq
 have cv := A_.mk er
 clear eq er
 have HB := A_.mk (Below.refl w.heap.size w)
 have H : ((atlas_May.f k aw ax ay az aA aB ao aC aa av aj).bind fun cj => (if cj = true then (if a1 < 0 then (sample_At.j0 k a1 a2 a3 true aw ax ay az aA aB ao aC aa av aj) else (sample_At.j0 k a1 a2 a3 (decide (a1 ≥ (aa.length : Int))) aw ax ay az aA aB ao aC aa av aj)) else (sample_At.j0 k a1 a2 a3 true aw ax ay az aA aB ao aC aa av aj))) = some (r1, r2, r3, r4, r5) := h
 clear h
 have gU := A_.mk H
 clear H
 go_enter Tryd.func8, Tryd.ntmps8
 go_upto_region 1 with (first | ((with_reducible refine O_ (N := 4) rfl ?_); (try (refine Q_ (by rfl) ?_; dsimp only)); refine N_ ?hg (N := 4) ?hd (cs := #[.int .i64 aw, .int .i64 ax, .int .i64 ay, .int .i64 az, .int .i64 aA, .int .i64 aB, .int .i64 ao, .int .i64 aC, .slice br aa.length aO, .slice aP av.length aQ, .slice be aj.length aF]) (t := 28) ?hr ?_; (case hd => rfl); (case hg => rfl); (case hr => first | (go_simp; done) | (go_simp; rfl)); intro ah hg w6 hbox hb; have aJ := A_.mk (E_ (by exact lB HB.out) hb); have aK := A_.mk (hbox); have aL := A_.mk ((by rw [hg]; exact (G_ (by exact lB HB.out)) : w.heap.size ≤ ah)); have aR := A_.mk ((by rw [hg]; exact (G_ (by exact lB HB.out)) : w.heap.size ≤ ah)); clear HB; have HB := aJ; have ad := aK; have kZ := aL; have aH := aR; clear aJ aK aL aR; clear hb hbox hg) | ((with_reducible refine O_ (N := 8) rfl ?_); (try (refine Q_ (by rfl) ?_; dsimp only)); refine N_ ?hg (N := 8) ?hd (cs := #[.int .i64 0, .int .i64 0, .int .i64 0, .int .i64 0]) (t := 32) ?hr ?_; (case hd => rfl); (case hg => rfl); (case hr => first | (go_simp; done) | (go_simp; rfl)); intro ak hg w7 hbox hb; have aJ := A_.mk (F_ (g := ah) (o := .cells #[.int .i64 aw, .int .i64 ax, .int .i64 ay, .int .i64 az, .int .i64 aA, .int .i64 aB, .int .i64 ao, .int .i64 aC, .slice br aa.length aO, .slice aP av.length aQ, .slice be aj.length aF] 28 (0, 0)) (by refine kB ?_; exact ad.out) hb); have aK := A_.mk (E_ (by exact lB HB.out) hb); have aL := A_.mk (hbox); have aR := A_.mk ((by rw [hg]; exact (G_ (by exact lB HB.out)) : w.heap.size ≤ ak)); have aS := A_.mk ((by rw [hg]; exact (G_ (by exact lB HB.out)) : w.heap.size ≤ ak)); have bl := A_.mk ((by rw [hg]; exact Nat.ne_of_lt (M_ (g := ah) (o := .cells #[.int .i64 aw, .int .i64 ax, .int .i64 ay, .int .i64 az, .int .i64 aA, .int .i64 aB, .int .i64 ao, .int .i64 aC, .slice br aa.length aO, .slice aP av.length aQ, .slice be aj.length aF] 28 (0, 0)) (by refine kB ?_; exact ad.out)) : ah ≠ ak)); have bA := A_.mk ((by rw [hg]; exact Nat.ne_of_gt (M_ (g := ah) (o := .cells #[.int .i64 aw, .int .i64 ax, .int .i64 ay, .int .i64 az, .int .i64 aA, .int .i64 aB, .int .i64 ao, .int .i64 aC, .slice br aa.length aO, .slice aP av.length aQ, .slice be aj.length aF] 28 (0, 0)) (by refine kB ?_; exact ad.out)) : ak ≠ ah)); clear ad; clear HB; have ad := aJ; have HB := aK; have ai := aL; have k0 := aR; have aN := aS; have bf := bl; have bg := bA; clear aJ aK aL aR aS bl bA; clear hb hbox hg))
 (try simp only [Act.put, List.setIfInBounds_toArray, List.set_cons_zero, List.set_cons_succ])
 go_cut [30] (fun v30 wc => ∃ (kq : Nat) (co : Bool), v30 = .bool co ∧ A_ (sample_At.j0 kq a1 a2 a3 co aw ax ay az aA aB ao aC aa av aj = some (r1, r2, r3, r4, r5)) ∧ A_ (kq ≤ k) ∧ A_ (wc.heap[ah]? = some (.cells #[.int .i64 aw, .int .i64 ax, .int .i64 ay, .int .i64 az, .int .i64 aA, .int .i64 aB, .int .i64 ao, .int .i64 aC, (.slice br aa.length aO), (.slice aP av.length aQ), (.slice be aj.length aF)] 28 (0, 0))) ∧ A_ (wc.heap[ak]? = some (.cells #[.int .i64 0, .int .i64 0, .int .i64 0, .int .i64 0] 32 (0, 0))) ∧ A_ (Below w.heap.size w wc))
 case first =>
  have H := gU.out
  clear gU
  replace H := Option.bind_eq_some_iff.mp H
  obtain ⟨cj, A80, H⟩ := H
  replace H : (if cj = true then (if a1 < 0 then (sample_At.j0 k a1 a2 a3 true aw ax ay az aA aB ao aC aa av aj) else (sample_At.j0 k a1 a2 a3 (decide (a1 ≥ (aa.length : Int))) aw ax ay az aA aB ao aC aa av aj)) else (sample_At.j0 k a1 a2 a3 true aw ax ay az aA aB ao aC aa av aj)) = some (r1, r2, r3, r4, r5) := H
  have A8 := A_.mk A80
  clear A80
  by_cases c9 : cj = true
  ·subst c9
   have H1 : (if a1 < 0 then (sample_At.j0 k a1 a2 a3 true aw ax ay az aA aB ao aC aa av aj) else (sample_At.j0 k a1 a2 a3 (decide (a1 ≥ (aa.length : Int))) aw ax ay az aA aB ao aC aa av aj)) = some (r1, r2, r3, r4, r5) := by rw [if_pos rfl] at H; exact H
   clear H
   have H := H1
   clear H1
   by_cases c10 : a1 < 0
   ·rw [if_pos c10] at H
    have bV : decide (a1 < 0) = true := decide_eq_true c10
    clear c10
    (first | rw [bV] | (simp only [i64_w, i32_w]; rw [bV]) | skip)
    have H' := A_.mk H
    clear H
    have k1 := bf.out
    have k2 := bg.out
    have cM : w7.cell? ⟨ah, 0, none⟩ = some (.int .i64 aw) := (D_ ad.out 0).trans rfl
    have cN : w7.cell? ⟨ah, 1, none⟩ = some (.int .i64 ax) := (D_ ad.out 1).trans rfl
    have cO : w7.cell? ⟨ah, 2, none⟩ = some (.int .i64 ay) := (D_ ad.out 2).trans rfl
    have cP : w7.cell? ⟨ah, 3, none⟩ = some (.int .i64 az) := (D_ ad.out 3).trans rfl
    have cQ : w7.cell? ⟨ah, 4, none⟩ = some (.int .i64 aA) := (D_ ad.out 4).trans rfl
    have cR : w7.cell? ⟨ah, 5, none⟩ = some (.int .i64 aB) := (D_ ad.out 5).trans rfl
    have cS : w7.cell? ⟨ah, 6, none⟩ = some (.int .i64 ao) := (D_ ad.out 6).trans rfl
    have cT : w7.cell? ⟨ah, 7, none⟩ = some (.int .i64 aC) := (D_ ad.out 7).trans rfl
    have cU : w7.cell? ⟨ah, 8, none⟩ = some (.slice br aa.length aO) := (D_ ad.out 8).trans rfl
    have cV : w7.cell? ⟨ah, 9, none⟩ = some (.slice aP av.length aQ) := (D_ ad.out 9).trans rfl
    have cw : w7.cell? ⟨ah, 10, none⟩ = some (.slice be aj.length aF) := (D_ ad.out 10).trans rfl
    have cW := B_ ad.out 0
    have cX := B_ ad.out 1
    have cY := B_ ad.out 2
    have cZ := B_ ad.out 3
    have c0 := B_ ad.out 4
    have c6 := B_ ad.out 5
    have c7 := B_ ad.out 6
    have da := B_ ad.out 7
    have db := B_ ad.out 8
    have dc := B_ ad.out 9
    have cx := B_ ad.out 10
    go_wp2_with (first | ((with_reducible refine P_ (f := 16) rfl ?_); refine R_ (some 18) rfl rfl Tryd.func16 (by kernel_rfl) rfl #[.agg #[.int .i64 aw, .int .i64 ax, .int .i64 ay, .int .i64 az, .int .i64 aA, .int .i64 aB, .int .i64 ao, .int .i64 aC, .slice br aa.length aO, .slice aP av.length aQ, .slice be aj.length aF]] rfl (by (try simp only [List.map_toArray, List.map_cons, List.map_nil]); first | done | rfl | (simp only [List.length_drop, List.length_take]; rfl)) ?_; (with_reducible refine (atlas_May.calls k aw ax ay az aA aB ao aC _ _ aa _ _ av _ _ aj true _ ?side1 ?side2 ?side3 ?side4 ?side5 ?side6 A8.out).mono ?_); (case side1 => repeat (first | exact (Kd.C_below cn.out HB.out) | (with_reducible refine Kd.C_alloc ?_ _) | (with_reducible refine Kd.C_drewN ?_ _) | (with_reducible refine Kd.C_drew ?_))); (case side2 => exact eg.out); (case side3 => repeat (first | exact (Kd.C_below eh.out HB.out) | (with_reducible refine Kd.C_alloc ?_ _) | (with_reducible refine Kd.C_drewN ?_ _) | (with_reducible refine Kd.C_drew ?_))); (case side4 => exact ei.out); (case side5 => repeat (first | exact (Kd.C_below b2.out HB.out) | (with_reducible refine Kd.C_alloc ?_ _) | (with_reducible refine Kd.C_drewN ?_ _) | (with_reducible refine Kd.C_drew ?_))); (case side6 => exact cv.out); rintro e mE ⟨rfl, hb⟩; refine ⟨_, rfl, ?_⟩; have aJ := A_.mk (F_ (g := ah) (o := .cells #[.int .i64 aw, .int .i64 ax, .int .i64 ay, .int .i64 az, .int .i64 aA, .int .i64 aB, .int .i64 ao, .int .i64 aC, .slice br aa.length aO, .slice aP av.length aQ, .slice be aj.length aF] 28 (0, 0)) (by refine kB ?_; exact ad.out) hb); have aK := A_.mk (F_ (g := ak) (o := .cells #[.int .i64 0, .int .i64 0, .int .i64 0, .int .i64 0] 32 (0, 0)) (by refine kB ?_; exact ai.out) hb); have aL := A_.mk (E_ (by exact lB HB.out) hb); clear ad; clear ai; clear HB; have ad := aJ; have ai := aK; have HB := aL; clear aJ aK aL; (try clear hb); (try clear b3); (try clear hk); (try clear hi)))
    go_meet
    case rel => exact ⟨_, (true), (by first | rfl | (simp; done) | (simp [*]; done)), H', ⟨by first | omega | exact Nat.le_refl _⟩, ⟨by refine kB ?_; exact ad.out⟩, ⟨by refine kB ?_; exact ai.out⟩, ⟨by exact lB HB.out⟩⟩
   ·rw [if_neg c10] at H
    have bV : decide (a1 < 0) = false := decide_eq_false c10
    clear c10
    (first | rw [bV] | (simp only [i64_w, i32_w]; rw [bV]) | skip)
    have H' := A_.mk H
    clear H
    have k3 := bf.out
    have k4 := bg.out
    have dd : w7.cell? ⟨ah, 0, none⟩ = some (.int .i64 aw) := (D_ ad.out 0).trans rfl
    have de : w7.cell? ⟨ah, 1, none⟩ = some (.int .i64 ax) := (D_ ad.out 1).trans rfl
    have df : w7.cell? ⟨ah, 2, none⟩ = some (.int .i64 ay) := (D_ ad.out 2).trans rfl
    have dg : w7.cell? ⟨ah, 3, none⟩ = some (.int .i64 az) := (D_ ad.out 3).trans rfl
    have dh : w7.cell? ⟨ah, 4, none⟩ = some (.int .i64 aA) := (D_ ad.out 4).trans rfl
    have di : w7.cell? ⟨ah, 5, none⟩ = some (.int .i64 aB) := (D_ ad.out 5).trans rfl
    have dj : w7.cell? ⟨ah, 6, none⟩ = some (.int .i64 ao) := (D_ ad.out 6).trans rfl
    have dk : w7.cell? ⟨ah, 7, none⟩ = some (.int .i64 aC) := (D_ ad.out 7).trans rfl
    have dl : w7.cell? ⟨ah, 8, none⟩ = some (.slice br aa.length aO) := (D_ ad.out 8).trans rfl
    have dm : w7.cell? ⟨ah, 9, none⟩ = some (.slice aP av.length aQ) := (D_ ad.out 9).trans rfl
    have cy : w7.cell? ⟨ah, 10, none⟩ = some (.slice be aj.length aF) := (D_ ad.out 10).trans rfl
    have dn := B_ ad.out 0
    have dp := B_ ad.out 1
    have dq := B_ ad.out 2
    have dr := B_ ad.out 3
    have dt := B_ ad.out 4
    have du := B_ ad.out 5
    have dv := B_ ad.out 6
    have dw := B_ ad.out 7
    have dx := B_ ad.out 8
    have dy := B_ ad.out 9
    have cz := B_ ad.out 10
    go_wp2_with (first | ((with_reducible refine P_ (f := 16) rfl ?_); refine R_ (some 18) rfl rfl Tryd.func16 (by kernel_rfl) rfl #[.agg #[.int .i64 aw, .int .i64 ax, .int .i64 ay, .int .i64 az, .int .i64 aA, .int .i64 aB, .int .i64 ao, .int .i64 aC, .slice br aa.length aO, .slice aP av.length aQ, .slice be aj.length aF]] rfl (by (try simp only [List.map_toArray, List.map_cons, List.map_nil]); first | done | rfl | (simp only [List.length_drop, List.length_take]; rfl)) ?_; (with_reducible refine (atlas_May.calls k aw ax ay az aA aB ao aC _ _ aa _ _ av _ _ aj true _ ?side1 ?side2 ?side3 ?side4 ?side5 ?side6 A8.out).mono ?_); (case side1 => repeat (first | exact (Kd.C_below cn.out HB.out) | (with_reducible refine Kd.C_alloc ?_ _) | (with_reducible refine Kd.C_drewN ?_ _) | (with_reducible refine Kd.C_drew ?_))); (case side2 => exact eg.out); (case side3 => repeat (first | exact (Kd.C_below eh.out HB.out) | (with_reducible refine Kd.C_alloc ?_ _) | (with_reducible refine Kd.C_drewN ?_ _) | (with_reducible refine Kd.C_drew ?_))); (case side4 => exact ei.out); (case side5 => repeat (first | exact (Kd.C_below b2.out HB.out) | (with_reducible refine Kd.C_alloc ?_ _) | (with_reducible refine Kd.C_drewN ?_ _) | (with_reducible refine Kd.C_drew ?_))); (case side6 => exact cv.out); rintro e b4 ⟨rfl, hb⟩; refine ⟨_, rfl, ?_⟩; have aJ := A_.mk (F_ (g := ah) (o := .cells #[.int .i64 aw, .int .i64 ax, .int .i64 ay, .int .i64 az, .int .i64 aA, .int .i64 aB, .int .i64 ao, .int .i64 aC, .slice br aa.length aO, .slice aP av.length aQ, .slice be aj.length aF] 28 (0, 0)) (by refine kB ?_; exact ad.out) hb); have aK := A_.mk (F_ (g := ak) (o := .cells #[.int .i64 0, .int .i64 0, .int .i64 0, .int .i64 0] 32 (0, 0)) (by refine kB ?_; exact ai.out) hb); have aL := A_.mk (E_ (by exact lB HB.out) hb); clear ad; clear ai; clear HB; have ad := aJ; have ai := aK; have HB := aL; clear aJ aK aL; (try clear hb); (try clear b3); (try clear hk); (try clear hi); have dz : b4.cell? ⟨ah, 0, none⟩ = some (.int .i64 aw) := (D_ ad.out 0).trans rfl; have dA : b4.cell? ⟨ah, 1, none⟩ = some (.int .i64 ax) := (D_ ad.out 1).trans rfl; have dB : b4.cell? ⟨ah, 2, none⟩ = some (.int .i64 ay) := (D_ ad.out 2).trans rfl; have dC : b4.cell? ⟨ah, 3, none⟩ = some (.int .i64 az) := (D_ ad.out 3).trans rfl; have dD : b4.cell? ⟨ah, 4, none⟩ = some (.int .i64 aA) := (D_ ad.out 4).trans rfl; have dE : b4.cell? ⟨ah, 5, none⟩ = some (.int .i64 aB) := (D_ ad.out 5).trans rfl; have dF : b4.cell? ⟨ah, 6, none⟩ = some (.int .i64 ao) := (D_ ad.out 6).trans rfl; have dG : b4.cell? ⟨ah, 7, none⟩ = some (.int .i64 aC) := (D_ ad.out 7).trans rfl; have dH : b4.cell? ⟨ah, 8, none⟩ = some (.slice br aa.length aO) := (D_ ad.out 8).trans rfl; have dI : b4.cell? ⟨ah, 9, none⟩ = some (.slice aP av.length aQ) := (D_ ad.out 9).trans rfl; have cA : b4.cell? ⟨ah, 10, none⟩ = some (.slice be aj.length aF) := (D_ ad.out 10).trans rfl; have dJ := B_ ad.out 0; have dK := B_ ad.out 1; have dL := B_ ad.out 2; have dM := B_ ad.out 3; have dN := B_ ad.out 4; have dO := B_ ad.out 5; have dP := B_ ad.out 6; have dQ := B_ ad.out 7; have dR := B_ ad.out 8; have dS := B_ ad.out 9; have cB := B_ ad.out 10))
    go_meet
    case rel => exact ⟨_, (decide (a1 ≥ (aa.length : Int))), (by first | rfl | (simp; done) | (simp [*]; done)), H', ⟨by first | omega | exact Nat.le_refl _⟩, ⟨by refine kB ?_; exact ad.out⟩, ⟨by refine kB ?_; exact ai.out⟩, ⟨by exact lB HB.out⟩⟩
  ·replace c9 := Bool.eq_false_iff.mpr c9
   subst c9
   have H1 : (sample_At.j0 k a1 a2 a3 true aw ax ay az aA aB ao aC aa av aj) = some (r1, r2, r3, r4, r5) := by rw [if_neg (show ¬ (false = true) by decide)] at H; exact H
   clear H
   have H := H1
   clear H1
   have H' := A_.mk H
   clear H
   have k5 := bf.out
   have k6 := bg.out
   have dT : w7.cell? ⟨ah, 0, none⟩ = some (.int .i64 aw) := (D_ ad.out 0).trans rfl
   have dU : w7.cell? ⟨ah, 1, none⟩ = some (.int .i64 ax) := (D_ ad.out 1).trans rfl
   have dV : w7.cell? ⟨ah, 2, none⟩ = some (.int .i64 ay) := (D_ ad.out 2).trans rfl
   have dW : w7.cell? ⟨ah, 3, none⟩ = some (.int .i64 az) := (D_ ad.out 3).trans rfl
   have dX : w7.cell? ⟨ah, 4, none⟩ = some (.int .i64 aA) := (D_ ad.out 4).trans rfl
   have dY : w7.cell? ⟨ah, 5, none⟩ = some (.int .i64 aB) := (D_ ad.out 5).trans rfl
   have dZ : w7.cell? ⟨ah, 6, none⟩ = some (.int .i64 ao) := (D_ ad.out 6).trans rfl
   have d0 : w7.cell? ⟨ah, 7, none⟩ = some (.int .i64 aC) := (D_ ad.out 7).trans rfl
   have d1 : w7.cell? ⟨ah, 8, none⟩ = some (.slice br aa.length aO) := (D_ ad.out 8).trans rfl
   have d2 : w7.cell? ⟨ah, 9, none⟩ = some (.slice aP av.length aQ) := (D_ ad.out 9).trans rfl
   have cC : w7.cell? ⟨ah, 10, none⟩ = some (.slice be aj.length aF) := (D_ ad.out 10).trans rfl
   have d3 := B_ ad.out 0
   have d4 := B_ ad.out 1
   have d5 := B_ ad.out 2
   have d6 := B_ ad.out 3
   have d7 := B_ ad.out 4
   have d8 := B_ ad.out 5
   have d9 := B_ ad.out 6
   have ea := B_ ad.out 7
   have eb := B_ ad.out 8
   have ec := B_ ad.out 9
   have cD := B_ ad.out 10
   go_wp2_with (first | ((with_reducible refine P_ (f := 16) rfl ?_); refine R_ (some 18) rfl rfl Tryd.func16 (by kernel_rfl) rfl #[.agg #[.int .i64 aw, .int .i64 ax, .int .i64 ay, .int .i64 az, .int .i64 aA, .int .i64 aB, .int .i64 ao, .int .i64 aC, .slice br aa.length aO, .slice aP av.length aQ, .slice be aj.length aF]] rfl (by (try simp only [List.map_toArray, List.map_cons, List.map_nil]); first | done | rfl | (simp only [List.length_drop, List.length_take]; rfl)) ?_; (with_reducible refine (atlas_May.calls k aw ax ay az aA aB ao aC _ _ aa _ _ av _ _ aj false _ ?side1 ?side2 ?side3 ?side4 ?side5 ?side6 A8.out).mono ?_); (case side1 => repeat (first | exact (Kd.C_below cn.out HB.out) | (with_reducible refine Kd.C_alloc ?_ _) | (with_reducible refine Kd.C_drewN ?_ _) | (with_reducible refine Kd.C_drew ?_))); (case side2 => exact eg.out); (case side3 => repeat (first | exact (Kd.C_below eh.out HB.out) | (with_reducible refine Kd.C_alloc ?_ _) | (with_reducible refine Kd.C_drewN ?_ _) | (with_reducible refine Kd.C_drew ?_))); (case side4 => exact ei.out); (case side5 => repeat (first | exact (Kd.C_below b2.out HB.out) | (with_reducible refine Kd.C_alloc ?_ _) | (with_reducible refine Kd.C_drewN ?_ _) | (with_reducible refine Kd.C_drew ?_))); (case side6 => exact cv.out); rintro e mF ⟨rfl, hb⟩; refine ⟨_, rfl, ?_⟩; have aJ := A_.mk (F_ (g := ah) (o := .cells #[.int .i64 aw, .int .i64 ax, .int .i64 ay, .int .i64 az, .int .i64 aA, .int .i64 aB, .int .i64 ao, .int .i64 aC, .slice br aa.length aO, .slice aP av.length aQ, .slice be aj.length aF] 28 (0, 0)) (by refine kB ?_; exact ad.out) hb); have aK := A_.mk (F_ (g := ak) (o := .cells #[.int .i64 0, .int .i64 0, .int .i64 0, .int .i64 0] 32 (0, 0)) (by refine kB ?_; exact ai.out) hb); have aL := A_.mk (E_ (by exact lB HB.out) hb); clear ad; clear ai; clear HB; have ad := aJ; have ai := aK; have HB := aL; clear aJ aK aL; (try clear hb); (try clear b3); (try clear hk); (try clear hi)))
   go_meet
   case rel => exact ⟨_, (true), (by first | rfl | (simp; done) | (simp [*]; done)), H', ⟨by first | omega | exact Nat.le_refl _⟩, ⟨by refine kB ?_; exact ad.out⟩, ⟨by refine kB ?_; exact ai.out⟩, ⟨by exact lB HB.out⟩⟩
 case rest =>
  clear gU
  try clear c1
  try clear p2
  try clear c8
  try clear c9
  try clear c10
  try clear bV
  try clear c11
  try clear c14
  try clear c16
  try clear c18
  try clear cM
  try clear cN
  try clear cw
  try clear cO
  try clear cP
  try clear cQ
  try clear cR
  try clear cS
  try clear cT
  try clear cU
  try clear cV
  try clear dd
  try clear de
  try clear cy
  try clear df
  try clear dg
  try clear dh
  try clear di
  try clear dj
  try clear dk
  try clear dl
  try clear dm
  try clear dz
  try clear dA
  try clear cA
  try clear dB
  try clear dC
  try clear dD
  try clear dE
  try clear dF
  try clear dG
  try clear dH
  try clear dI
  try clear dT
  try clear dU
  try clear cC
  try clear dV
  try clear dW
  try clear dX
  try clear dY
  try clear dZ
  try clear d0
  try clear d1
  try clear d2
  try clear cW
  try clear cX
  try clear cx
  try clear cY
  try clear cZ
  try clear c0
  try clear c6
  try clear c7
  try clear da
  try clear db
  try clear dc
  try clear dn
  try clear dp
  try clear cz
  try clear dq
  try clear dr
  try clear dt
  try clear du
  try clear dv
  try clear dw
  try clear dx
  try clear dy
  try clear dJ
  try clear dK
  try clear cB
  try clear dL
  try clear dM
  try clear dN
  try clear dO
  try clear dP
  try clear dQ
  try clear dR
  try clear dS
  try clear d3
  try clear d4
  try clear cD
  try clear d5
  try clear d6
  try clear d7
  try clear d8
  try clear d9
  try clear ea
  try clear eb
  try clear ec
  obtain ⟨kq, co, rfl, HA, es, ad, ai, HB⟩ := hcut
  cases kq with
  | zero => exact absurd HA.out (by simp [sample_At.j0])
  | succ ed =>
   have H := HA.out
   clear HA
   simp only [sample_At.j0] at H
   by_cases c21 : co = true
   ·subst c21
    have H1 : (some (0, 0, 0, 0, 1)) = some (r1, r2, r3, r4, r5) := by rw [if_pos rfl] at H; exact H
    clear H
    have H := H1
    clear H1
    simp only [Option.some.injEq, Prod.mk.injEq] at H
    obtain ⟨rfl, rfl, rfl, rfl, rfl⟩ := H
    have k7 := bg.out
    have k8 := bf.out
    have eL : wc.cell? ⟨ak, 0, none⟩ = some (.int .i64 0) := (D_ ai.out 0).trans rfl
    have eM : wc.cell? ⟨ak, 1, none⟩ = some (.int .i64 0) := (D_ ai.out 1).trans rfl
    have eN : wc.cell? ⟨ak, 2, none⟩ = some (.int .i64 0) := (D_ ai.out 2).trans rfl
    have eO : wc.cell? ⟨ak, 3, none⟩ = some (.int .i64 0) := (D_ ai.out 3).trans rfl
    have eP := B_ ai.out 0
    have eQ := B_ ai.out 1
    have eR := B_ ai.out 2
    have eS := B_ ai.out 3
    go_wp2
    refine bodyPost_ret (results_ct rfl _ _ ak 32 #[.int .i64 0, .int .i64 0, .int .i64 0, .int .i64 0] (0, 0) _ rfl (by refine kB ?_; refine L_ (cs := #[.int .i64 0, .int .i64 0, .int .i64 0, .int .i64 0]) ?_ 3 _ rfl; refine kB ?_; refine L_ (cs := #[.int .i64 0, .int .i64 0, .int .i64 0, .int .i64 0]) ?_ 2 _ rfl; refine kB ?_; refine L_ (cs := #[.int .i64 0, .int .i64 0, .int .i64 0, .int .i64 0]) ?_ 1 _ rfl; refine kB ?_; refine L_ (cs := #[.int .i64 0, .int .i64 0, .int .i64 0, .int .i64 0]) ?_ 0 _ rfl; refine kB ?_; exact ai.out) Tryd.underlying32 rfl (by kernel_rfl)) rfl ?_
    exact ⟨by first | rfl | (simp [errW_none, errW_some] <;> rfl) | (simp [*, errW_none, errW_some] <;> rfl), by exact lB HB.out⟩
   ·replace c21 := Bool.eq_false_iff.mpr c21
    subst c21
    have H1 : (if 0 ≤ a1 then (if a1 < (aa.length : Int) then (if ((Z_ aa a1).f1.f2) = 0 then (sample_At.j1 ed a2 a3 true aw ax ay az aA aB ao aC aa av aj ((Z_ aa a1).f0) ((Z_ aa a1).f1.f0) ((Z_ aa a1).f1.f1) ((Z_ aa a1).f1.f2) ((Z_ aa a1).f1.f3) ((Z_ aa a1).f2.f0) ((Z_ aa a1).f2.f1) ((Z_ aa a1).f2.f2)) else (if a2 < 0 then (sample_At.j1 ed a2 a3 true aw ax ay az aA aB ao aC aa av aj ((Z_ aa a1).f0) ((Z_ aa a1).f1.f0) ((Z_ aa a1).f1.f1) ((Z_ aa a1).f1.f2) ((Z_ aa a1).f1.f3) ((Z_ aa a1).f2.f0) ((Z_ aa a1).f2.f1) ((Z_ aa a1).f2.f2)) else (if a2 > (wrap64 (256 * (wrap64 (((Z_ aa a1).f1.f2) - 1)))) then (sample_At.j1 ed a2 a3 true aw ax ay az aA aB ao aC aa av aj ((Z_ aa a1).f0) ((Z_ aa a1).f1.f0) ((Z_ aa a1).f1.f1) ((Z_ aa a1).f1.f2) ((Z_ aa a1).f1.f3) ((Z_ aa a1).f2.f0) ((Z_ aa a1).f2.f1) ((Z_ aa a1).f2.f2)) else (if a3 < 0 then (sample_At.j1 ed a2 a3 true aw ax ay az aA aB ao aC aa av aj ((Z_ aa a1).f0) ((Z_ aa a1).f1.f0) ((Z_ aa a1).f1.f1) ((Z_ aa a1).f1.f2) ((Z_ aa a1).f1.f3) ((Z_ aa a1).f2.f0) ((Z_ aa a1).f2.f1) ((Z_ aa a1).f2.f2)) else (sample_At.j1 ed a2 a3 (decide (a3 > (wrap64 (256 * (wrap64 (((Z_ aa a1).f1.f3) - 1)))))) aw ax ay az aA aB ao aC aa av aj ((Z_ aa a1).f0) ((Z_ aa a1).f1.f0) ((Z_ aa a1).f1.f1) ((Z_ aa a1).f1.f2) ((Z_ aa a1).f1.f3) ((Z_ aa a1).f2.f0) ((Z_ aa a1).f2.f1) ((Z_ aa a1).f2.f2)))))) else (none)) else (none)) = some (r1, r2, r3, r4, r5) := by rw [if_neg (show ¬ (false = true) by decide)] at H; exact H
    clear H
    have H := H1
    clear H1
    by_cases c24 : 0 ≤ a1
    ·rw [if_pos c24] at H
     have gV : decide (0 ≤ a1) = true := decide_eq_true c24
     clear c24
     by_cases c25 : a1 < (aa.length : Int)
     ·rw [if_pos c25] at H
      have gW : decide (a1 < (aa.length : Int)) = true := decide_eq_true c25
      clear c25
      have eu := A_.mk H
      clear H
      have k9 := bf.out
      have la := bg.out
      have eT : wc.cell? ⟨ah, 0, none⟩ = some (.int .i64 aw) := (D_ ad.out 0).trans rfl
      have eU : wc.cell? ⟨ah, 1, none⟩ = some (.int .i64 ax) := (D_ ad.out 1).trans rfl
      have eV : wc.cell? ⟨ah, 2, none⟩ = some (.int .i64 ay) := (D_ ad.out 2).trans rfl
      have eW : wc.cell? ⟨ah, 3, none⟩ = some (.int .i64 az) := (D_ ad.out 3).trans rfl
      have eX : wc.cell? ⟨ah, 4, none⟩ = some (.int .i64 aA) := (D_ ad.out 4).trans rfl
      have eY : wc.cell? ⟨ah, 5, none⟩ = some (.int .i64 aB) := (D_ ad.out 5).trans rfl
      have eZ : wc.cell? ⟨ah, 6, none⟩ = some (.int .i64 ao) := (D_ ad.out 6).trans rfl
      have e0 : wc.cell? ⟨ah, 7, none⟩ = some (.int .i64 aC) := (D_ ad.out 7).trans rfl
      have e1 : wc.cell? ⟨ah, 8, none⟩ = some (.slice br aa.length aO) := (D_ ad.out 8).trans rfl
      have e2 : wc.cell? ⟨ah, 9, none⟩ = some (.slice aP av.length aQ) := (D_ ad.out 9).trans rfl
      have ev : wc.cell? ⟨ah, 10, none⟩ = some (.slice be aj.length aF) := (D_ ad.out 10).trans rfl
      have e3 := B_ ad.out 0
      have e4 := B_ ad.out 1
      have e5 := B_ ad.out 2
      have e6 := B_ ad.out 3
      have e7 := B_ ad.out 4
      have e8 := B_ ad.out 5
      have e9 := B_ ad.out 6
      have fa := B_ ad.out 7
      have fb := B_ ad.out 8
      have fc := B_ ad.out 9
      have ew := B_ ad.out 10
      have p157 : 0 ≤ (a1 : Int) := of_decide_eq_true (by first | (with_reducible assumption) | assumption)
      have q157 : a1 < (aa.length : Int) := of_decide_eq_true (by first | (with_reducible assumption) | assumption)
      obtain ⟨ad157, e157, b9, ca, cb, cc, cd, ce, cf, cg⟩ := at_T54 cn.out a1 p157 q157
      cases e157
      replace b9 := (HB.out.cell (World.block_lt_of_cell? w _ b9)).trans b9
      replace ca := (HB.out.cell (World.block_lt_of_cell? w _ ca)).trans ca
      replace cb := (HB.out.cell (World.block_lt_of_cell? w _ cb)).trans cb
      replace cc := (HB.out.cell (World.block_lt_of_cell? w _ cc)).trans cc
      replace cd := (HB.out.cell (World.block_lt_of_cell? w _ cd)).trans cd
      replace ce := (HB.out.cell (World.block_lt_of_cell? w _ ce)).trans ce
      replace cf := (HB.out.cell (World.block_lt_of_cell? w _ cf)).trans cf
      replace cg := (HB.out.cell (World.block_lt_of_cell? w _ cg)).trans cg
      replace p157 := eq_true p157
      replace q157 := eq_true q157
      go_upto_region 4 with (first | ((with_reducible refine O_ (N := 10) rfl ?_); (try (refine Q_ (by rfl) ?_; dsimp only)); refine N_ ?hg (N := 10) ?hd (cs := #[.int .i64 0, .int .i64 0, .int .i64 0, .int .i64 0, .int .i64 0, .int .i64 0, .int .i64 0, .int .i64 0]) (t := 54) ?hr ?_; (case hd => rfl); (case hg => rfl); (case hr => first | (go_simp; done) | (go_simp; rfl)); intro ag hg aV hbox hb; have aJ := A_.mk (F_ (g := ah) (o := .cells #[.int .i64 aw, .int .i64 ax, .int .i64 ay, .int .i64 az, .int .i64 aA, .int .i64 aB, .int .i64 ao, .int .i64 aC, .slice (some ad157) aa.length aO, .slice aP av.length aQ, .slice be aj.length aF] 28 (0, 0)) (by refine kB ?_; exact ad.out) hb); have aK := A_.mk (F_ (g := ak) (o := .cells #[.int .i64 0, .int .i64 0, .int .i64 0, .int .i64 0] 32 (0, 0)) (by refine kB ?_; exact ai.out) hb); have aL := A_.mk (E_ (by exact lB HB.out) hb); have aR := A_.mk (hbox); have aS := A_.mk ((by rw [hg]; exact (G_ (by exact lB HB.out)) : w.heap.size ≤ ag)); have bl := A_.mk ((by rw [hg]; exact (G_ (by exact lB HB.out)) : w.heap.size ≤ ag)); have bA := A_.mk ((by rw [hg]; exact Nat.ne_of_lt (M_ (g := ah) (o := .cells #[.int .i64 aw, .int .i64 ax, .int .i64 ay, .int .i64 az, .int .i64 aA, .int .i64 aB, .int .i64 ao, .int .i64 aC, .slice (some ad157) aa.length aO, .slice aP av.length aQ, .slice be aj.length aF] 28 (0, 0)) (by refine kB ?_; exact ad.out)) : ah ≠ ag)); have bQ := A_.mk ((by rw [hg]; exact Nat.ne_of_gt (M_ (g := ah) (o := .cells #[.int .i64 aw, .int .i64 ax, .int .i64 ay, .int .i64 az, .int .i64 aA, .int .i64 aB, .int .i64 ao, .int .i64 aC, .slice (some ad157) aa.length aO, .slice aP av.length aQ, .slice be aj.length aF] 28 (0, 0)) (by refine kB ?_; exact ad.out)) : ag ≠ ah)); have bR := A_.mk ((by rw [hg]; exact Nat.ne_of_lt (M_ (g := ak) (o := .cells #[.int .i64 0, .int .i64 0, .int .i64 0, .int .i64 0] 32 (0, 0)) (by refine kB ?_; exact ai.out)) : ak ≠ ag)); have bS := A_.mk ((by rw [hg]; exact Nat.ne_of_gt (M_ (g := ak) (o := .cells #[.int .i64 0, .int .i64 0, .int .i64 0, .int .i64 0] 32 (0, 0)) (by refine kB ?_; exact ai.out)) : ag ≠ ak)); clear ad; clear ai; clear HB; have ad := aJ; have ai := aK; have HB := aL; have ac := aR; have lb := aS; have aT := bl; have an := bA; have bq := bQ; have am := bR; have aX := bS; clear aJ aK aL aR aS bl bA bQ bR bS; clear hb hbox hg; have lc := bq.out; have ld := an.out; have le := aX.out; have lf := am.out; have fd : aV.cell? ⟨ag, 0, none⟩ = some (.int .i64 0) := (D_ ac.out 0).trans rfl; have fe : aV.cell? ⟨ag, 1, none⟩ = some (.int .i64 0) := (D_ ac.out 1).trans rfl; have ff : aV.cell? ⟨ag, 2, none⟩ = some (.int .i64 0) := (D_ ac.out 2).trans rfl; have fg : aV.cell? ⟨ag, 3, none⟩ = some (.int .i64 0) := (D_ ac.out 3).trans rfl; have fh : aV.cell? ⟨ag, 4, none⟩ = some (.int .i64 0) := (D_ ac.out 4).trans rfl; have fi : aV.cell? ⟨ag, 5, none⟩ = some (.int .i64 0) := (D_ ac.out 5).trans rfl; have fj : aV.cell? ⟨ag, 6, none⟩ = some (.int .i64 0) := (D_ ac.out 6).trans rfl; have fk : aV.cell? ⟨ag, 7, none⟩ = some (.int .i64 0) := (D_ ac.out 7).trans rfl; have fl := B_ ac.out 0; have fm := B_ ac.out 1; have fo := B_ ac.out 2; have fp := B_ ac.out 3; have fq := B_ ac.out 4; have fr := B_ ac.out 5; have fs := B_ ac.out 6; have ft := B_ ac.out 7))
      (try simp only [Act.put, List.setIfInBounds_toArray, List.set_cons_zero, List.set_cons_succ])
      go_cut [66] (fun v66 wc => ∃ (kq : Nat) (ci : Bool), v66 = .bool ci ∧ A_ (sample_At.j1 kq a2 a3 ci aw ax ay az aA aB ao aC aa av aj ((Z_ aa a1).f0) ((Z_ aa a1).f1.f0) ((Z_ aa a1).f1.f1) ((Z_ aa a1).f1.f2) ((Z_ aa a1).f1.f3) ((Z_ aa a1).f2.f0) ((Z_ aa a1).f2.f1) ((Z_ aa a1).f2.f2) = some (r1, r2, r3, r4, r5)) ∧ A_ (kq ≤ ed) ∧ A_ (wc.heap[ah]? = some (.cells #[.int .i64 aw, .int .i64 ax, .int .i64 ay, .int .i64 az, .int .i64 aA, .int .i64 aB, .int .i64 ao, .int .i64 aC, (.slice (some ad157) aa.length aO), (.slice aP av.length aQ), (.slice be aj.length aF)] 28 (0, 0))) ∧ A_ (wc.heap[ak]? = some (.cells #[.int .i64 0, .int .i64 0, .int .i64 0, .int .i64 0] 32 (0, 0))) ∧ A_ (wc.heap[ag]? = some (.cells #[.int .i64 ((Z_ aa a1).f0), .int .i64 ((Z_ aa a1).f1.f0), .int .i64 ((Z_ aa a1).f1.f1), .int .i64 ((Z_ aa a1).f1.f2), .int .i64 ((Z_ aa a1).f1.f3), .int .i64 ((Z_ aa a1).f2.f0), .int .i64 ((Z_ aa a1).f2.f1), .int .i64 ((Z_ aa a1).f2.f2)] 54 (0, 0))) ∧ A_ (Below w.heap.size w wc))
      case first =>
       have H := eu.out
       clear eu
       by_cases c33 : ((Z_ aa a1).f1.f2) = 0
       ·rw [if_pos c33] at H
        have ch : (((Z_ aa a1).f1.f2) == 0) = true := beq_iff_eq.mpr c33
        have eD : (((Z_ aa a1).f1.f2) != 0) = false := bne_eq_false_iff_eq.mpr c33
        clear c33
        (first | rw [ch] | (simp only [i64_w, i32_w]; rw [ch]) | skip)
        have H' := A_.mk H
        clear H
        have lg := bq.out
        have lh := an.out
        have li := aX.out
        have lj := am.out
        have fu : aV.cell? ⟨ag, 0, none⟩ = some (.int .i64 0) := (D_ ac.out 0).trans rfl
        have fv : aV.cell? ⟨ag, 1, none⟩ = some (.int .i64 0) := (D_ ac.out 1).trans rfl
        have fw : aV.cell? ⟨ag, 2, none⟩ = some (.int .i64 0) := (D_ ac.out 2).trans rfl
        have fx : aV.cell? ⟨ag, 3, none⟩ = some (.int .i64 0) := (D_ ac.out 3).trans rfl
        have fy : aV.cell? ⟨ag, 4, none⟩ = some (.int .i64 0) := (D_ ac.out 4).trans rfl
        have fz : aV.cell? ⟨ag, 5, none⟩ = some (.int .i64 0) := (D_ ac.out 5).trans rfl
        have fA : aV.cell? ⟨ag, 6, none⟩ = some (.int .i64 0) := (D_ ac.out 6).trans rfl
        have fB : aV.cell? ⟨ag, 7, none⟩ = some (.int .i64 0) := (D_ ac.out 7).trans rfl
        have fC := B_ ac.out 0
        have fD := B_ ac.out 1
        have fE := B_ ac.out 2
        have fF := B_ ac.out 3
        have fG := B_ ac.out 4
        have fH := B_ ac.out 5
        have fI := B_ ac.out 6
        have fJ := B_ ac.out 7
        go_wp2
        go_meet
        case rel => exact ⟨_, (true), (by first | rfl | (simp; done) | (simp [*]; done)), H', ⟨by have := es.out; first | omega | exact Nat.le_refl _⟩, ⟨by refine kB ?_; refine J_ ?_ an.out _; refine kB ?_; refine J_ ?_ an.out _; refine kB ?_; refine J_ ?_ an.out _; refine kB ?_; refine J_ ?_ an.out _; refine kB ?_; refine J_ ?_ an.out _; refine kB ?_; refine J_ ?_ an.out _; refine kB ?_; refine J_ ?_ an.out _; refine kB ?_; refine J_ ?_ an.out _; refine kB ?_; exact ad.out⟩, ⟨by refine kB ?_; refine J_ ?_ am.out _; refine kB ?_; refine J_ ?_ am.out _; refine kB ?_; refine J_ ?_ am.out _; refine kB ?_; refine J_ ?_ am.out _; refine kB ?_; refine J_ ?_ am.out _; refine kB ?_; refine J_ ?_ am.out _; refine kB ?_; refine J_ ?_ am.out _; refine kB ?_; refine J_ ?_ am.out _; refine kB ?_; exact ai.out⟩, ⟨by refine kB ?_; refine L_ (cs := #[.int .i64 ((Z_ aa a1).f0), .int .i64 ((Z_ aa a1).f1.f0), .int .i64 ((Z_ aa a1).f1.f1), .int .i64 ((Z_ aa a1).f1.f2), .int .i64 ((Z_ aa a1).f1.f3), .int .i64 ((Z_ aa a1).f2.f0), .int .i64 ((Z_ aa a1).f2.f1), .int .i64 0]) ?_ 7 _ rfl; refine kB ?_; refine L_ (cs := #[.int .i64 ((Z_ aa a1).f0), .int .i64 ((Z_ aa a1).f1.f0), .int .i64 ((Z_ aa a1).f1.f1), .int .i64 ((Z_ aa a1).f1.f2), .int .i64 ((Z_ aa a1).f1.f3), .int .i64 ((Z_ aa a1).f2.f0), .int .i64 0, .int .i64 0]) ?_ 6 _ rfl; refine kB ?_; refine L_ (cs := #[.int .i64 ((Z_ aa a1).f0), .int .i64 ((Z_ aa a1).f1.f0), .int .i64 ((Z_ aa a1).f1.f1), .int .i64 ((Z_ aa a1).f1.f2), .int .i64 ((Z_ aa a1).f1.f3), .int .i64 0, .int .i64 0, .int .i64 0]) ?_ 5 _ rfl; refine kB ?_; refine L_ (cs := #[.int .i64 ((Z_ aa a1).f0), .int .i64 ((Z_ aa a1).f1.f0), .int .i64 ((Z_ aa a1).f1.f1), .int .i64 ((Z_ aa a1).f1.f2), .int .i64 0, .int .i64 0, .int .i64 0, .int .i64 0]) ?_ 4 _ rfl; refine kB ?_; refine L_ (cs := #[.int .i64 ((Z_ aa a1).f0), .int .i64 ((Z_ aa a1).f1.f0), .int .i64 ((Z_ aa a1).f1.f1), .int .i64 0, .int .i64 0, .int .i64 0, .int .i64 0, .int .i64 0]) ?_ 3 _ rfl; refine kB ?_; refine L_ (cs := #[.int .i64 ((Z_ aa a1).f0), .int .i64 ((Z_ aa a1).f1.f0), .int .i64 0, .int .i64 0, .int .i64 0, .int .i64 0, .int .i64 0, .int .i64 0]) ?_ 2 _ rfl; refine kB ?_; refine L_ (cs := #[.int .i64 ((Z_ aa a1).f0), .int .i64 0, .int .i64 0, .int .i64 0, .int .i64 0, .int .i64 0, .int .i64 0, .int .i64 0]) ?_ 1 _ rfl; refine kB ?_; refine L_ (cs := #[.int .i64 0, .int .i64 0, .int .i64 0, .int .i64 0, .int .i64 0, .int .i64 0, .int .i64 0, .int .i64 0]) ?_ 0 _ rfl; refine kB ?_; exact ac.out⟩, ⟨by exact lB HB.out⟩⟩
       ·rw [if_neg c33] at H
        have ch : (((Z_ aa a1).f1.f2) == 0) = false := beq_eq_false_iff_ne.mpr c33
        have eD : (((Z_ aa a1).f1.f2) != 0) = true := bne_iff_ne.mpr c33
        (first | rw [ch] | (simp only [i64_w, i32_w]; rw [ch]) | skip)
        by_cases c37 : a2 < 0
        ·rw [if_pos c37] at H
         have eE : decide (a2 < 0) = true := decide_eq_true c37
         clear c37
         have H' := A_.mk H
         clear H
         have lk := bq.out
         have ll := an.out
         have lm := aX.out
         have ln := am.out
         have fK : aV.cell? ⟨ag, 0, none⟩ = some (.int .i64 0) := (D_ ac.out 0).trans rfl
         have fL : aV.cell? ⟨ag, 1, none⟩ = some (.int .i64 0) := (D_ ac.out 1).trans rfl
         have fM : aV.cell? ⟨ag, 2, none⟩ = some (.int .i64 0) := (D_ ac.out 2).trans rfl
         have fN : aV.cell? ⟨ag, 3, none⟩ = some (.int .i64 0) := (D_ ac.out 3).trans rfl
         have fO : aV.cell? ⟨ag, 4, none⟩ = some (.int .i64 0) := (D_ ac.out 4).trans rfl
         have fP : aV.cell? ⟨ag, 5, none⟩ = some (.int .i64 0) := (D_ ac.out 5).trans rfl
         have fQ : aV.cell? ⟨ag, 6, none⟩ = some (.int .i64 0) := (D_ ac.out 6).trans rfl
         have fR : aV.cell? ⟨ag, 7, none⟩ = some (.int .i64 0) := (D_ ac.out 7).trans rfl
         have fS := B_ ac.out 0
         have fT := B_ ac.out 1
         have fU := B_ ac.out 2
         have fV := B_ ac.out 3
         have fW := B_ ac.out 4
         have fX := B_ ac.out 5
         have fY := B_ ac.out 6
         have fZ := B_ ac.out 7
         go_wp2
         go_meet
         case rel => exact ⟨_, (true), (by first | rfl | (simp; done) | (simp [*]; done)), H', ⟨by have := es.out; first | omega | exact Nat.le_refl _⟩, ⟨by refine kB ?_; refine J_ ?_ an.out _; refine kB ?_; refine J_ ?_ an.out _; refine kB ?_; refine J_ ?_ an.out _; refine kB ?_; refine J_ ?_ an.out _; refine kB ?_; refine J_ ?_ an.out _; refine kB ?_; refine J_ ?_ an.out _; refine kB ?_; refine J_ ?_ an.out _; refine kB ?_; refine J_ ?_ an.out _; refine kB ?_; exact ad.out⟩, ⟨by refine kB ?_; refine J_ ?_ am.out _; refine kB ?_; refine J_ ?_ am.out _; refine kB ?_; refine J_ ?_ am.out _; refine kB ?_; refine J_ ?_ am.out _; refine kB ?_; refine J_ ?_ am.out _; refine kB ?_; refine J_ ?_ am.out _; refine kB ?_; refine J_ ?_ am.out _; refine kB ?_; refine J_ ?_ am.out _; refine kB ?_; exact ai.out⟩, ⟨by refine kB ?_; refine L_ (cs := #[.int .i64 ((Z_ aa a1).f0), .int .i64 ((Z_ aa a1).f1.f0), .int .i64 ((Z_ aa a1).f1.f1), .int .i64 ((Z_ aa a1).f1.f2), .int .i64 ((Z_ aa a1).f1.f3), .int .i64 ((Z_ aa a1).f2.f0), .int .i64 ((Z_ aa a1).f2.f1), .int .i64 0]) ?_ 7 _ rfl; refine kB ?_; refine L_ (cs := #[.int .i64 ((Z_ aa a1).f0), .int .i64 ((Z_ aa a1).f1.f0), .int .i64 ((Z_ aa a1).f1.f1), .int .i64 ((Z_ aa a1).f1.f2), .int .i64 ((Z_ aa a1).f1.f3), .int .i64 ((Z_ aa a1).f2.f0), .int .i64 0, .int .i64 0]) ?_ 6 _ rfl; refine kB ?_; refine L_ (cs := #[.int .i64 ((Z_ aa a1).f0), .int .i64 ((Z_ aa a1).f1.f0), .int .i64 ((Z_ aa a1).f1.f1), .int .i64 ((Z_ aa a1).f1.f2), .int .i64 ((Z_ aa a1).f1.f3), .int .i64 0, .int .i64 0, .int .i64 0]) ?_ 5 _ rfl; refine kB ?_; refine L_ (cs := #[.int .i64 ((Z_ aa a1).f0), .int .i64 ((Z_ aa a1).f1.f0), .int .i64 ((Z_ aa a1).f1.f1), .int .i64 ((Z_ aa a1).f1.f2), .int .i64 0, .int .i64 0, .int .i64 0, .int .i64 0]) ?_ 4 _ rfl; refine kB ?_; refine L_ (cs := #[.int .i64 ((Z_ aa a1).f0), .int .i64 ((Z_ aa a1).f1.f0), .int .i64 ((Z_ aa a1).f1.f1), .int .i64 0, .int .i64 0, .int .i64 0, .int .i64 0, .int .i64 0]) ?_ 3 _ rfl; refine kB ?_; refine L_ (cs := #[.int .i64 ((Z_ aa a1).f0), .int .i64 ((Z_ aa a1).f1.f0), .int .i64 0, .int .i64 0, .int .i64 0, .int .i64 0, .int .i64 0, .int .i64 0]) ?_ 2 _ rfl; refine kB ?_; refine L_ (cs := #[.int .i64 ((Z_ aa a1).f0), .int .i64 0, .int .i64 0, .int .i64 0, .int .i64 0, .int .i64 0, .int .i64 0, .int .i64 0]) ?_ 1 _ rfl; refine kB ?_; refine L_ (cs := #[.int .i64 0, .int .i64 0, .int .i64 0, .int .i64 0, .int .i64 0, .int .i64 0, .int .i64 0, .int .i64 0]) ?_ 0 _ rfl; refine kB ?_; exact ac.out⟩, ⟨by exact lB HB.out⟩⟩
        ·rw [if_neg c37] at H
         have eE : decide (a2 < 0) = false := decide_eq_false c37
         clear c37
         by_cases c41 : a2 > (wrap64 (256 * (wrap64 (((Z_ aa a1).f1.f2) - 1))))
         ·rw [if_pos c41] at H
          have eF : decide ((wrap64 (256 * (wrap64 (((Z_ aa a1).f1.f2) - 1)))) < a2) = true := decide_eq_true c41
          clear c41
          have H' := A_.mk H
          clear H
          have lo := bq.out
          have lp := an.out
          have lq := aX.out
          have lr := am.out
          have f0 : aV.cell? ⟨ag, 0, none⟩ = some (.int .i64 0) := (D_ ac.out 0).trans rfl
          have f1 : aV.cell? ⟨ag, 1, none⟩ = some (.int .i64 0) := (D_ ac.out 1).trans rfl
          have f2 : aV.cell? ⟨ag, 2, none⟩ = some (.int .i64 0) := (D_ ac.out 2).trans rfl
          have f3 : aV.cell? ⟨ag, 3, none⟩ = some (.int .i64 0) := (D_ ac.out 3).trans rfl
          have f4 : aV.cell? ⟨ag, 4, none⟩ = some (.int .i64 0) := (D_ ac.out 4).trans rfl
          have f5 : aV.cell? ⟨ag, 5, none⟩ = some (.int .i64 0) := (D_ ac.out 5).trans rfl
          have f6 : aV.cell? ⟨ag, 6, none⟩ = some (.int .i64 0) := (D_ ac.out 6).trans rfl
          have f7 : aV.cell? ⟨ag, 7, none⟩ = some (.int .i64 0) := (D_ ac.out 7).trans rfl
          have f8 := B_ ac.out 0
          have f9 := B_ ac.out 1
          have ga := B_ ac.out 2
          have gb := B_ ac.out 3
          have gc := B_ ac.out 4
          have gd := B_ ac.out 5
          have ge := B_ ac.out 6
          have gf := B_ ac.out 7
          go_wp2
          go_meet
          case rel => exact ⟨_, (true), (by first | rfl | (simp; done) | (simp [*]; done)), H', ⟨by have := es.out; first | omega | exact Nat.le_refl _⟩, ⟨by refine kB ?_; refine J_ ?_ an.out _; refine kB ?_; refine J_ ?_ an.out _; refine kB ?_; refine J_ ?_ an.out _; refine kB ?_; refine J_ ?_ an.out _; refine kB ?_; refine J_ ?_ an.out _; refine kB ?_; refine J_ ?_ an.out _; refine kB ?_; refine J_ ?_ an.out _; refine kB ?_; refine J_ ?_ an.out _; refine kB ?_; exact ad.out⟩, ⟨by refine kB ?_; refine J_ ?_ am.out _; refine kB ?_; refine J_ ?_ am.out _; refine kB ?_; refine J_ ?_ am.out _; refine kB ?_; refine J_ ?_ am.out _; refine kB ?_; refine J_ ?_ am.out _; refine kB ?_; refine J_ ?_ am.out _; refine kB ?_; refine J_ ?_ am.out _; refine kB ?_; refine J_ ?_ am.out _; refine kB ?_; exact ai.out⟩, ⟨by refine kB ?_; refine L_ (cs := #[.int .i64 ((Z_ aa a1).f0), .int .i64 ((Z_ aa a1).f1.f0), .int .i64 ((Z_ aa a1).f1.f1), .int .i64 ((Z_ aa a1).f1.f2), .int .i64 ((Z_ aa a1).f1.f3), .int .i64 ((Z_ aa a1).f2.f0), .int .i64 ((Z_ aa a1).f2.f1), .int .i64 0]) ?_ 7 _ rfl; refine kB ?_; refine L_ (cs := #[.int .i64 ((Z_ aa a1).f0), .int .i64 ((Z_ aa a1).f1.f0), .int .i64 ((Z_ aa a1).f1.f1), .int .i64 ((Z_ aa a1).f1.f2), .int .i64 ((Z_ aa a1).f1.f3), .int .i64 ((Z_ aa a1).f2.f0), .int .i64 0, .int .i64 0]) ?_ 6 _ rfl; refine kB ?_; refine L_ (cs := #[.int .i64 ((Z_ aa a1).f0), .int .i64 ((Z_ aa a1).f1.f0), .int .i64 ((Z_ aa a1).f1.f1), .int .i64 ((Z_ aa a1).f1.f2), .int .i64 ((Z_ aa a1).f1.f3), .int .i64 0, .int .i64 0, .int .i64 0]) ?_ 5 _ rfl; refine kB ?_; refine L_ (cs := #[.int .i64 ((Z_ aa a1).f0), .int .i64 ((Z_ aa a1).f1.f0), .int .i64 ((Z_ aa a1).f1.f1), .int .i64 ((Z_ aa a1).f1.f2), .int .i64 0, .int .i64 0, .int .i64 0, .int .i64 0]) ?_ 4 _ rfl; refine kB ?_; refine L_ (cs := #[.int .i64 ((Z_ aa a1).f0), .int .i64 ((Z_ aa a1).f1.f0), .int .i64 ((Z_ aa a1).f1.f1), .int .i64 0, .int .i64 0, .int .i64 0, .int .i64 0, .int .i64 0]) ?_ 3 _ rfl; refine kB ?_; refine L_ (cs := #[.int .i64 ((Z_ aa a1).f0), .int .i64 ((Z_ aa a1).f1.f0), .int .i64 0, .int .i64 0, .int .i64 0, .int .i64 0, .int .i64 0, .int .i64 0]) ?_ 2 _ rfl; refine kB ?_; refine L_ (cs := #[.int .i64 ((Z_ aa a1).f0), .int .i64 0, .int .i64 0, .int .i64 0, .int .i64 0, .int .i64 0, .int .i64 0, .int .i64 0]) ?_ 1 _ rfl; refine kB ?_; refine L_ (cs := #[.int .i64 0, .int .i64 0, .int .i64 0, .int .i64 0, .int .i64 0, .int .i64 0, .int .i64 0, .int .i64 0]) ?_ 0 _ rfl; refine kB ?_; exact ac.out⟩, ⟨by exact lB HB.out⟩⟩
         ·rw [if_neg c41] at H
          have eF : decide ((wrap64 (256 * (wrap64 (((Z_ aa a1).f1.f2) - 1)))) < a2) = false := decide_eq_false c41
          clear c41
          by_cases c45 : a3 < 0
          ·rw [if_pos c45] at H
           have eG : decide (a3 < 0) = true := decide_eq_true c45
           clear c45
           have H' := A_.mk H
           clear H
           have ls := bq.out
           have lt := an.out
           have lu := aX.out
           have lv := am.out
           have gg : aV.cell? ⟨ag, 0, none⟩ = some (.int .i64 0) := (D_ ac.out 0).trans rfl
           have gh : aV.cell? ⟨ag, 1, none⟩ = some (.int .i64 0) := (D_ ac.out 1).trans rfl
           have gi : aV.cell? ⟨ag, 2, none⟩ = some (.int .i64 0) := (D_ ac.out 2).trans rfl
           have gj : aV.cell? ⟨ag, 3, none⟩ = some (.int .i64 0) := (D_ ac.out 3).trans rfl
           have gk : aV.cell? ⟨ag, 4, none⟩ = some (.int .i64 0) := (D_ ac.out 4).trans rfl
           have gl : aV.cell? ⟨ag, 5, none⟩ = some (.int .i64 0) := (D_ ac.out 5).trans rfl
           have gm : aV.cell? ⟨ag, 6, none⟩ = some (.int .i64 0) := (D_ ac.out 6).trans rfl
           have gn : aV.cell? ⟨ag, 7, none⟩ = some (.int .i64 0) := (D_ ac.out 7).trans rfl
           have gp := B_ ac.out 0
           have gq := B_ ac.out 1
           have gr := B_ ac.out 2
           have gs := B_ ac.out 3
           have gt := B_ ac.out 4
           have gu := B_ ac.out 5
           have gv := B_ ac.out 6
           have gw := B_ ac.out 7
           go_wp2
           go_meet
           case rel => exact ⟨_, (true), (by first | rfl | (simp; done) | (simp [*]; done)), H', ⟨by have := es.out; first | omega | exact Nat.le_refl _⟩, ⟨by refine kB ?_; refine J_ ?_ an.out _; refine kB ?_; refine J_ ?_ an.out _; refine kB ?_; refine J_ ?_ an.out _; refine kB ?_; refine J_ ?_ an.out _; refine kB ?_; refine J_ ?_ an.out _; refine kB ?_; refine J_ ?_ an.out _; refine kB ?_; refine J_ ?_ an.out _; refine kB ?_; refine J_ ?_ an.out _; refine kB ?_; exact ad.out⟩, ⟨by refine kB ?_; refine J_ ?_ am.out _; refine kB ?_; refine J_ ?_ am.out _; refine kB ?_; refine J_ ?_ am.out _; refine kB ?_; refine J_ ?_ am.out _; refine kB ?_; refine J_ ?_ am.out _; refine kB ?_; refine J_ ?_ am.out _; refine kB ?_; refine J_ ?_ am.out _; refine kB ?_; refine J_ ?_ am.out _; refine kB ?_; exact ai.out⟩, ⟨by refine kB ?_; refine L_ (cs := #[.int .i64 ((Z_ aa a1).f0), .int .i64 ((Z_ aa a1).f1.f0), .int .i64 ((Z_ aa a1).f1.f1), .int .i64 ((Z_ aa a1).f1.f2), .int .i64 ((Z_ aa a1).f1.f3), .int .i64 ((Z_ aa a1).f2.f0), .int .i64 ((Z_ aa a1).f2.f1), .int .i64 0]) ?_ 7 _ rfl; refine kB ?_; refine L_ (cs := #[.int .i64 ((Z_ aa a1).f0), .int .i64 ((Z_ aa a1).f1.f0), .int .i64 ((Z_ aa a1).f1.f1), .int .i64 ((Z_ aa a1).f1.f2), .int .i64 ((Z_ aa a1).f1.f3), .int .i64 ((Z_ aa a1).f2.f0), .int .i64 0, .int .i64 0]) ?_ 6 _ rfl; refine kB ?_; refine L_ (cs := #[.int .i64 ((Z_ aa a1).f0), .int .i64 ((Z_ aa a1).f1.f0), .int .i64 ((Z_ aa a1).f1.f1), .int .i64 ((Z_ aa a1).f1.f2), .int .i64 ((Z_ aa a1).f1.f3), .int .i64 0, .int .i64 0, .int .i64 0]) ?_ 5 _ rfl; refine kB ?_; refine L_ (cs := #[.int .i64 ((Z_ aa a1).f0), .int .i64 ((Z_ aa a1).f1.f0), .int .i64 ((Z_ aa a1).f1.f1), .int .i64 ((Z_ aa a1).f1.f2), .int .i64 0, .int .i64 0, .int .i64 0, .int .i64 0]) ?_ 4 _ rfl; refine kB ?_; refine L_ (cs := #[.int .i64 ((Z_ aa a1).f0), .int .i64 ((Z_ aa a1).f1.f0), .int .i64 ((Z_ aa a1).f1.f1), .int .i64 0, .int .i64 0, .int .i64 0, .int .i64 0, .int .i64 0]) ?_ 3 _ rfl; refine kB ?_; refine L_ (cs := #[.int .i64 ((Z_ aa a1).f0), .int .i64 ((Z_ aa a1).f1.f0), .int .i64 0, .int .i64 0, .int .i64 0, .int .i64 0, .int .i64 0, .int .i64 0]) ?_ 2 _ rfl; refine kB ?_; refine L_ (cs := #[.int .i64 ((Z_ aa a1).f0), .int .i64 0, .int .i64 0, .int .i64 0, .int .i64 0, .int .i64 0, .int .i64 0, .int .i64 0]) ?_ 1 _ rfl; refine kB ?_; refine L_ (cs := #[.int .i64 0, .int .i64 0, .int .i64 0, .int .i64 0, .int .i64 0, .int .i64 0, .int .i64 0, .int .i64 0]) ?_ 0 _ rfl; refine kB ?_; exact ac.out⟩, ⟨by exact lB HB.out⟩⟩
          ·rw [if_neg c45] at H
           have eG : decide (a3 < 0) = false := decide_eq_false c45
           clear c45
           have H' := A_.mk H
           clear H
           have lw := bq.out
           have lx := an.out
           have ly := aX.out
           have lz := am.out
           have gx : aV.cell? ⟨ag, 0, none⟩ = some (.int .i64 0) := (D_ ac.out 0).trans rfl
           have gy : aV.cell? ⟨ag, 1, none⟩ = some (.int .i64 0) := (D_ ac.out 1).trans rfl
           have gz : aV.cell? ⟨ag, 2, none⟩ = some (.int .i64 0) := (D_ ac.out 2).trans rfl
           have gA : aV.cell? ⟨ag, 3, none⟩ = some (.int .i64 0) := (D_ ac.out 3).trans rfl
           have gB : aV.cell? ⟨ag, 4, none⟩ = some (.int .i64 0) := (D_ ac.out 4).trans rfl
           have gC : aV.cell? ⟨ag, 5, none⟩ = some (.int .i64 0) := (D_ ac.out 5).trans rfl
           have gD : aV.cell? ⟨ag, 6, none⟩ = some (.int .i64 0) := (D_ ac.out 6).trans rfl
           have gE : aV.cell? ⟨ag, 7, none⟩ = some (.int .i64 0) := (D_ ac.out 7).trans rfl
           have gF := B_ ac.out 0
           have gG := B_ ac.out 1
           have gH := B_ ac.out 2
           have gI := B_ ac.out 3
           have gJ := B_ ac.out 4
           have gK := B_ ac.out 5
           have gL := B_ ac.out 6
           have gM := B_ ac.out 7
           go_wp2
           go_meet
           case rel => exact ⟨_, (decide (a3 > (wrap64 (256 * (wrap64 (((Z_ aa a1).f1.f3) - 1)))))), (by first | rfl | (simp; done) | (simp [*]; done)), H', ⟨by have := es.out; first | omega | exact Nat.le_refl _⟩, ⟨by refine kB ?_; refine J_ ?_ an.out _; refine kB ?_; refine J_ ?_ an.out _; refine kB ?_; refine J_ ?_ an.out _; refine kB ?_; refine J_ ?_ an.out _; refine kB ?_; refine J_ ?_ an.out _; refine kB ?_; refine J_ ?_ an.out _; refine kB ?_; refine J_ ?_ an.out _; refine kB ?_; refine J_ ?_ an.out _; refine kB ?_; exact ad.out⟩, ⟨by refine kB ?_; refine J_ ?_ am.out _; refine kB ?_; refine J_ ?_ am.out _; refine kB ?_; refine J_ ?_ am.out _; refine kB ?_; refine J_ ?_ am.out _; refine kB ?_; refine J_ ?_ am.out _; refine kB ?_; refine J_ ?_ am.out _; refine kB ?_; refine J_ ?_ am.out _; refine kB ?_; refine J_ ?_ am.out _; refine kB ?_; exact ai.out⟩, ⟨by refine kB ?_; refine L_ (cs := #[.int .i64 ((Z_ aa a1).f0), .int .i64 ((Z_ aa a1).f1.f0), .int .i64 ((Z_ aa a1).f1.f1), .int .i64 ((Z_ aa a1).f1.f2), .int .i64 ((Z_ aa a1).f1.f3), .int .i64 ((Z_ aa a1).f2.f0), .int .i64 ((Z_ aa a1).f2.f1), .int .i64 0]) ?_ 7 _ rfl; refine kB ?_; refine L_ (cs := #[.int .i64 ((Z_ aa a1).f0), .int .i64 ((Z_ aa a1).f1.f0), .int .i64 ((Z_ aa a1).f1.f1), .int .i64 ((Z_ aa a1).f1.f2), .int .i64 ((Z_ aa a1).f1.f3), .int .i64 ((Z_ aa a1).f2.f0), .int .i64 0, .int .i64 0]) ?_ 6 _ rfl; refine kB ?_; refine L_ (cs := #[.int .i64 ((Z_ aa a1).f0), .int .i64 ((Z_ aa a1).f1.f0), .int .i64 ((Z_ aa a1).f1.f1), .int .i64 ((Z_ aa a1).f1.f2), .int .i64 ((Z_ aa a1).f1.f3), .int .i64 0, .int .i64 0, .int .i64 0]) ?_ 5 _ rfl; refine kB ?_; refine L_ (cs := #[.int .i64 ((Z_ aa a1).f0), .int .i64 ((Z_ aa a1).f1.f0), .int .i64 ((Z_ aa a1).f1.f1), .int .i64 ((Z_ aa a1).f1.f2), .int .i64 0, .int .i64 0, .int .i64 0, .int .i64 0]) ?_ 4 _ rfl; refine kB ?_; refine L_ (cs := #[.int .i64 ((Z_ aa a1).f0), .int .i64 ((Z_ aa a1).f1.f0), .int .i64 ((Z_ aa a1).f1.f1), .int .i64 0, .int .i64 0, .int .i64 0, .int .i64 0, .int .i64 0]) ?_ 3 _ rfl; refine kB ?_; refine L_ (cs := #[.int .i64 ((Z_ aa a1).f0), .int .i64 ((Z_ aa a1).f1.f0), .int .i64 0, .int .i64 0, .int .i64 0, .int .i64 0, .int .i64 0, .int .i64 0]) ?_ 2 _ rfl; refine kB ?_; refine L_ (cs := #[.int .i64 ((Z_ aa a1).f0), .int .i64 0, .int .i64 0, .int .i64 0, .int .i64 0, .int .i64 0, .int .i64 0, .int .i64 0]) ?_ 1 _ rfl; refine kB ?_; refine L_ (cs := #[.int .i64 0, .int .i64 0, .int .i64 0, .int .i64 0, .int .i64 0, .int .i64 0, .int .i64 0, .int .i64 0]) ?_ 0 _ rfl; refine kB ?_; exact ac.out⟩, ⟨by exact lB HB.out⟩⟩
      case rest =>
       clear eu
       try clear c1
       try clear p1
       try clear q1
       try clear mG
       try clear c2
       try clear p2
       try clear c3
       try clear c4
       try clear c5
       try clear p6
       try clear c8
       try clear c9
       try clear c10
       try clear bV
       try clear c11
       try clear c14
       try clear p15
       try clear q15
       try clear mm
       try clear c16
       try clear c18
       try clear c21
       try clear c22
       try clear c24
       try clear gV
       try clear c25
       try clear gW
       try clear c27
       try clear c30
       try clear c31
       try clear c33
       try clear ch
       try clear eD
       try clear c34
       try clear c35
       try clear c37
       try clear eE
       try clear c38
       try clear c39
       try clear c41
       try clear eF
       try clear c42
       try clear c43
       try clear c45
       try clear eG
       try clear c46
       try clear c47
       try clear c49
       try clear c50
       try clear cM
       try clear cN
       try clear cw
       try clear cO
       try clear cP
       try clear cQ
       try clear cR
       try clear cS
       try clear cT
       try clear cU
       try clear cV
       try clear dd
       try clear de
       try clear cy
       try clear df
       try clear dg
       try clear dh
       try clear di
       try clear dj
       try clear dk
       try clear dl
       try clear dm
       try clear dz
       try clear dA
       try clear cA
       try clear dB
       try clear dC
       try clear dD
       try clear dE
       try clear dF
       try clear dG
       try clear dH
       try clear dI
       try clear dT
       try clear dU
       try clear cC
       try clear dV
       try clear dW
       try clear dX
       try clear dY
       try clear dZ
       try clear d0
       try clear d1
       try clear d2
       try clear eL
       try clear eM
       try clear eN
       try clear eO
       try clear eT
       try clear eU
       try clear ev
       try clear eV
       try clear eW
       try clear eX
       try clear eY
       try clear eZ
       try clear e0
       try clear e1
       try clear e2
       try clear fd
       try clear fe
       try clear ff
       try clear fg
       try clear fh
       try clear fi
       try clear fj
       try clear fk
       try clear fu
       try clear fv
       try clear fw
       try clear fx
       try clear fy
       try clear fz
       try clear fA
       try clear fB
       try clear fK
       try clear fL
       try clear fM
       try clear fN
       try clear fO
       try clear fP
       try clear fQ
       try clear fR
       try clear f0
       try clear f1
       try clear f2
       try clear f3
       try clear f4
       try clear f5
       try clear f6
       try clear f7
       try clear gg
       try clear gh
       try clear gi
       try clear gj
       try clear gk
       try clear gl
       try clear gm
       try clear gn
       try clear gx
       try clear gy
       try clear gz
       try clear gA
       try clear gB
       try clear gC
       try clear gD
       try clear gE
       try clear cW
       try clear cX
       try clear cx
       try clear cY
       try clear cZ
       try clear c0
       try clear c6
       try clear c7
       try clear da
       try clear db
       try clear dc
       try clear dn
       try clear dp
       try clear cz
       try clear dq
       try clear dr
       try clear dt
       try clear du
       try clear dv
       try clear dw
       try clear dx
       try clear dy
       try clear dJ
       try clear dK
       try clear cB
       try clear dL
       try clear dM
       try clear dN
       try clear dO
       try clear dP
       try clear dQ
       try clear dR
       try clear dS
       try clear d3
       try clear d4
       try clear cD
       try clear d5
       try clear d6
       try clear d7
       try clear d8
       try clear d9
       try clear ea
       try clear eb
       try clear ec
       try clear eP
       try clear eQ
       try clear eR
       try clear eS
       try clear e3
       try clear e4
       try clear ew
       try clear e5
       try clear e6
       try clear e7
       try clear e8
       try clear e9
       try clear fa
       try clear fb
       try clear fc
       try clear fl
       try clear fm
       try clear fo
       try clear fp
       try clear fq
       try clear fr
       try clear fs
       try clear ft
       try clear fC
       try clear fD
       try clear fE
       try clear fF
       try clear fG
       try clear fH
       try clear fI
       try clear fJ
       try clear fS
       try clear fT
       try clear fU
       try clear fV
       try clear fW
       try clear fX
       try clear fY
       try clear fZ
       try clear f8
       try clear f9
       try clear ga
       try clear gb
       try clear gc
       try clear gd
       try clear ge
       try clear gf
       try clear gp
       try clear gq
       try clear gr
       try clear gs
       try clear gt
       try clear gu
       try clear gv
       try clear gw
       try clear gF
       try clear gG
       try clear gH
       try clear gI
       try clear gJ
       try clear gK
       try clear gL
       try clear gM
       try clear b9
       try clear ca
       try clear cb
       try clear cc
       try clear cd
       try clear ce
       try clear cf
       try clear cg
       try clear p157
       try clear p2
       try clear q157
       obtain ⟨kq, ci, rfl, HA, mo, ad, ai, ac, HB⟩ := hcut
       cases kq with
       | zero => exact absurd HA.out (by simp [sample_At.j1])
       | succ mp =>
        have H := HA.out
        clear HA
        simp only [sample_At.j1] at H
        by_cases c52 : ci = true
        ·subst c52
         have H1 : (some (0, 0, 0, 0, 7)) = some (r1, r2, r3, r4, r5) := by rw [if_pos rfl] at H; exact H
         clear H
         have H := H1
         clear H1
         simp only [Option.some.injEq, Prod.mk.injEq] at H
         obtain ⟨rfl, rfl, rfl, rfl, rfl⟩ := H
         have lA := bg.out
         have lC := bf.out
         have lD := am.out
         have lE := aX.out
         have iz : wc.cell? ⟨ak, 0, none⟩ = some (.int .i64 0) := (D_ ai.out 0).trans rfl
         have iA : wc.cell? ⟨ak, 1, none⟩ = some (.int .i64 0) := (D_ ai.out 1).trans rfl
         have iB : wc.cell? ⟨ak, 2, none⟩ = some (.int .i64 0) := (D_ ai.out 2).trans rfl
         have iC : wc.cell? ⟨ak, 3, none⟩ = some (.int .i64 0) := (D_ ai.out 3).trans rfl
         have iD := B_ ai.out 0
         have iE := B_ ai.out 1
         have iF := B_ ai.out 2
         have iG := B_ ai.out 3
         go_wp2
         refine bodyPost_ret (results_ct rfl _ _ ak 32 #[.int .i64 0, .int .i64 0, .int .i64 0, .int .i64 0] (0, 0) _ rfl (by refine kB ?_; refine L_ (cs := #[.int .i64 0, .int .i64 0, .int .i64 0, .int .i64 0]) ?_ 3 _ rfl; refine kB ?_; refine L_ (cs := #[.int .i64 0, .int .i64 0, .int .i64 0, .int .i64 0]) ?_ 2 _ rfl; refine kB ?_; refine L_ (cs := #[.int .i64 0, .int .i64 0, .int .i64 0, .int .i64 0]) ?_ 1 _ rfl; refine kB ?_; refine L_ (cs := #[.int .i64 0, .int .i64 0, .int .i64 0, .int .i64 0]) ?_ 0 _ rfl; refine kB ?_; exact ai.out) Tryd.underlying32 rfl (by kernel_rfl)) rfl ?_
         exact ⟨by first | rfl | (simp [errW_none, errW_some] <;> rfl) | (simp [*, errW_none, errW_some] <;> rfl), by exact lB HB.out⟩
        ·replace c52 := Bool.eq_false_iff.mpr c52
         subst c52
         have H1 : (if 0 ≤ ((Z_ aa a1).f2.f0) then (if ((Z_ aa a1).f2.f0) < (aj.length : Int) then ((sample_part.f a2 ((Z_ aa a1).f1.f2)).bind fun bB => ((sample_part.f a3 ((Z_ aa a1).f1.f3)).bind fun bs => ((sample_sampler_row.f (rdOf ByteArray.empty aj ((Z_ aa a1).f2.f0)) ao ((Z_ aa a1).f2.f0) ((Z_ aa a1).f2.f1) ((Z_ aa a1).f2.f2) bB.1 bs.1 bB.2).bind fun aD => (if bs.2 = 0 then ((sample_mixed.f aD.1 aD.2.1 aD.2.2.1 aD.2.2.2 aD.1 aD.2.1 aD.2.2.1 aD.2.2.2 0).bind fun ba => (some (ba.1, ba.2.1, ba.2.2.1, ba.2.2.2, 0))) else ((sample_sampler_row.f (rdOf ByteArray.empty aj ((Z_ aa a1).f2.f0)) ao ((Z_ aa a1).f2.f0) ((Z_ aa a1).f2.f1) ((Z_ aa a1).f2.f2) bB.1 (wrap64 (bs.1 + 1)) bB.2).bind fun bb => ((sample_mixed.f aD.1 aD.2.1 aD.2.2.1 aD.2.2.2 bb.1 bb.2.1 bb.2.2.1 bb.2.2.2 bs.2).bind fun aU => (some (aU.1, aU.2.1, aU.2.2.1, aU.2.2.2, 0)))))))) else (none)) else (none)) = some (r1, r2, r3, r4, r5) := by rw [if_neg (show ¬ (false = true) by decide)] at H; exact H
         clear H
         have H := H1
         clear H1
         by_cases c56 : 0 ≤ ((Z_ aa a1).f2.f0)
         ·rw [if_pos c56] at H
          have lF : decide (0 ≤ ((Z_ aa a1).f2.f0)) = true := decide_eq_true c56
          clear c56
          by_cases c57 : ((Z_ aa a1).f2.f0) < (aj.length : Int)
          ·rw [if_pos c57] at H
           have lG : decide (((Z_ aa a1).f2.f0) < (aj.length : Int)) = true := decide_eq_true c57
           clear c57
           replace H := Option.bind_eq_some_iff.mp H
           obtain ⟨⟨bx, bz⟩, A580, H⟩ := H
           replace H : ((sample_part.f a3 ((Z_ aa a1).f1.f3)).bind fun bs => ((sample_sampler_row.f (rdOf ByteArray.empty aj ((Z_ aa a1).f2.f0)) ao ((Z_ aa a1).f2.f0) ((Z_ aa a1).f2.f1) ((Z_ aa a1).f2.f2) bx bs.1 bz).bind fun aD => (if bs.2 = 0 then ((sample_mixed.f aD.1 aD.2.1 aD.2.2.1 aD.2.2.2 aD.1 aD.2.1 aD.2.2.1 aD.2.2.2 0).bind fun ba => (some (ba.1, ba.2.1, ba.2.2.1, ba.2.2.2, 0))) else ((sample_sampler_row.f (rdOf ByteArray.empty aj ((Z_ aa a1).f2.f0)) ao ((Z_ aa a1).f2.f0) ((Z_ aa a1).f2.f1) ((Z_ aa a1).f2.f2) bx (wrap64 (bs.1 + 1)) bz).bind fun bb => ((sample_mixed.f aD.1 aD.2.1 aD.2.2.1 aD.2.2.2 bb.1 bb.2.1 bb.2.2.1 bb.2.2.2 bs.2).bind fun aU => (some (aU.1, aU.2.1, aU.2.2.1, aU.2.2.2, 0))))))) = some (r1, r2, r3, r4, r5) := H
           have A58 := A_.mk A580
           clear A580
           replace H := Option.bind_eq_some_iff.mp H
           obtain ⟨⟨bL, bw⟩, A590, H⟩ := H
           replace H : ((sample_sampler_row.f (rdOf ByteArray.empty aj ((Z_ aa a1).f2.f0)) ao ((Z_ aa a1).f2.f0) ((Z_ aa a1).f2.f1) ((Z_ aa a1).f2.f2) bx bL bz).bind fun aD => (if bw = 0 then ((sample_mixed.f aD.1 aD.2.1 aD.2.2.1 aD.2.2.2 aD.1 aD.2.1 aD.2.2.1 aD.2.2.2 0).bind fun ba => (some (ba.1, ba.2.1, ba.2.2.1, ba.2.2.2, 0))) else ((sample_sampler_row.f (rdOf ByteArray.empty aj ((Z_ aa a1).f2.f0)) ao ((Z_ aa a1).f2.f0) ((Z_ aa a1).f2.f1) ((Z_ aa a1).f2.f2) bx (wrap64 (bL + 1)) bz).bind fun bb => ((sample_mixed.f aD.1 aD.2.1 aD.2.2.1 aD.2.2.2 bb.1 bb.2.1 bb.2.2.1 bb.2.2.2 bw).bind fun aU => (some (aU.1, aU.2.1, aU.2.2.1, aU.2.2.2, 0)))))) = some (r1, r2, r3, r4, r5) := H
           have A59 := A_.mk A590
           clear A590
           replace H := Option.bind_eq_some_iff.mp H
           obtain ⟨⟨bc, bd, bh, bm⟩, A600, H⟩ := H
           replace H : (if bw = 0 then ((sample_mixed.f bc bd bh bm bc bd bh bm 0).bind fun ba => (some (ba.1, ba.2.1, ba.2.2.1, ba.2.2.2, 0))) else ((sample_sampler_row.f (rdOf ByteArray.empty aj ((Z_ aa a1).f2.f0)) ao ((Z_ aa a1).f2.f0) ((Z_ aa a1).f2.f1) ((Z_ aa a1).f2.f2) bx (wrap64 (bL + 1)) bz).bind fun bb => ((sample_mixed.f bc bd bh bm bb.1 bb.2.1 bb.2.2.1 bb.2.2.2 bw).bind fun aU => (some (aU.1, aU.2.1, aU.2.2.1, aU.2.2.2, 0))))) = some (r1, r2, r3, r4, r5) := H
           have A60 := A_.mk A600
           clear A600
           by_cases c61 : bw = 0
           ·rw [if_pos c61] at H
            have gX : (bw == 0) = true := beq_iff_eq.mpr c61
            have gY : (bw != 0) = false := bne_eq_false_iff_eq.mpr c61
            clear c61
            replace H := Option.bind_eq_some_iff.mp H
            obtain ⟨⟨ck, cE, ej, ex⟩, A620, H⟩ := H
            replace H : (some (ck, cE, ej, ex, 0)) = some (r1, r2, r3, r4, r5) := H
            have A62 := A_.mk A620
            clear A620
            simp only [Option.some.injEq, Prod.mk.injEq] at H
            obtain ⟨rfl, rfl, rfl, rfl, rfl⟩ := H
            try go_wp2
            have aJ := A_.mk (Y_ ad.out)
            have aK := A_.mk (Y_ ai.out)
            have aL := A_.mk (Y_ ac.out)
            have aR := A_.mk (T_ HB.out)
            clear ad
            clear ai
            clear ac
            clear HB
            have ad := aJ
            have ai := aK
            have ac := aL
            have HB := aR
            clear aJ aK aL aR
            have p159 : 0 ≤ (((Z_ aa a1).f2.f0) : Int) := of_decide_eq_true (by first | (with_reducible assumption) | assumption)
            have q159 : ((Z_ aa a1).f2.f0) < (aj.length : Int) := of_decide_eq_true (by first | (with_reducible assumption) | assumption)
            obtain ⟨ad159, e159, bp⟩ := Kd.at_string b2.out ((Z_ aa a1).f2.f0) p159 q159
            have aq := bp
            cases e159
            replace bp := (HB.out.cell (World.block_lt_of_cell? w _ bp)).trans bp
            replace p159 := eq_true p159
            replace q159 := eq_true q159
            refine start_ (n := 15) (S := fun w' => w'.cell? ⟨ah, 0, none⟩ = some (.int .i64 aw) ∧ w'.cell? ⟨ah, 1, none⟩ = some (.int .i64 ax) ∧ w'.cell? ⟨ah, 2, none⟩ = some (.int .i64 ay) ∧ w'.cell? ⟨ah, 3, none⟩ = some (.int .i64 az) ∧ w'.cell? ⟨ah, 4, none⟩ = some (.int .i64 aA) ∧ w'.cell? ⟨ah, 5, none⟩ = some (.int .i64 aB) ∧ w'.cell? ⟨ah, 6, none⟩ = some (.int .i64 ao) ∧ w'.cell? ⟨ah, 7, none⟩ = some (.int .i64 aC) ∧ w'.cell? ⟨ah, 8, none⟩ = some (.slice (some ad157) aa.length aO) ∧ w'.cell? ⟨ah, 9, none⟩ = some (.slice aP av.length aQ) ∧ w'.cell? ⟨ah, 10, none⟩ = some (.slice (some ad159) aj.length aF) ∧ w'.cell? ⟨ag, 0, none⟩ = some (.int .i64 ((Z_ aa a1).f0)) ∧ w'.cell? ⟨ag, 1, none⟩ = some (.int .i64 ((Z_ aa a1).f1.f0)) ∧ w'.cell? ⟨ag, 2, none⟩ = some (.int .i64 ((Z_ aa a1).f1.f1)) ∧ w'.cell? ⟨ag, 3, none⟩ = some (.int .i64 ((Z_ aa a1).f1.f2)) ∧ w'.cell? ⟨ag, 4, none⟩ = some (.int .i64 ((Z_ aa a1).f1.f3)) ∧ w'.cell? ⟨ag, 5, none⟩ = some (.int .i64 ((Z_ aa a1).f2.f0)) ∧ w'.cell? ⟨ag, 6, none⟩ = some (.int .i64 ((Z_ aa a1).f2.f1)) ∧ w'.cell? ⟨ag, 7, none⟩ = some (.int .i64 ((Z_ aa a1).f2.f2)) ∧ w'.cell? (ad159.add (((Z_ aa a1).f2.f0)).toNat) = some (.string (rdOf ByteArray.empty aj ((Z_ aa a1).f2.f0)))) (ds := []) #[false, false, false, false, false, false, false, false, false, false, false, false, false, false, false] (by kernel_rfl) rfl rfl ⟨(D_ ad.out 0).trans rfl, (D_ ad.out 1).trans rfl, (D_ ad.out 2).trans rfl, (D_ ad.out 3).trans rfl, (D_ ad.out 4).trans rfl, (D_ ad.out 5).trans rfl, (D_ ad.out 6).trans rfl, (D_ ad.out 7).trans rfl, (D_ ad.out 8).trans rfl, (D_ ad.out 9).trans rfl, (D_ ad.out 10).trans rfl, (D_ ac.out 0).trans rfl, (D_ ac.out 1).trans rfl, (D_ ac.out 2).trans rfl, (D_ ac.out 3).trans rfl, (D_ ac.out 4).trans rfl, (D_ ac.out 5).trans rfl, (D_ ac.out 6).trans rfl, (D_ ac.out 7).trans rfl, ((HB.out.cell (World.block_lt_of_cell? w _ aq)).trans aq)⟩ (fun hHeld => ?_); refine with_tabW sample_At.tab6 sample_At.bits6 (fun HT_ HW_ => ?_)
            generalize wc.drew = mH at ad ai ac HB bp hHeld ⊢
            refine pure_ (i := 0) (N := some 68) (v := ?_) (a' := ?_) #[true, false, false, false, false, false, false, false, false, false, false, false, false, false, false] rfl rfl (A1_ HT_.out (by kernel_rfl)) (fun _ _ _ h => h) (Or.inl ⟨by rfl, ?_⟩) ?_ ?_
            rotate_left
            ·intro w'
             go_simp
             with_reducible rfl
            rotate_left
            ·exact pA
            refine pure_ (i := 2) (N := some 70) (v := ?_) (a' := ?_) #[true, false, true, false, false, false, false, false, false, false, false, false, false, false, false] rfl rfl (A1_ HT_.out (by kernel_rfl)) (fun _ _ _ h => h) (Or.inl ⟨by rfl, ?_⟩) ?_ ?_
            rotate_left
            ·intro w'
             go_simp
             with_reducible rfl
            rotate_left
            ·exact pA
            refine pure_ (i := 3) (N := some 71) (v := ?_) (a' := ?_) #[true, false, true, true, false, false, false, false, false, false, false, false, false, false, false] rfl rfl (A1_ HT_.out (by kernel_rfl)) (fun _ _ _ h => h) (Or.inl ⟨by rfl, ?_⟩) ?_ ?_
            rotate_left
            ·intro w'
             go_simp
             with_reducible rfl
            rotate_left
            ·exact pA
            refine pure_ (i := 7) (N := some 75) (v := ?_) (a' := ?_) #[true, false, true, true, false, false, false, true, false, false, false, false, false, false, false] rfl rfl (A1_ HT_.out (by kernel_rfl)) (fun _ _ _ h => h) (Or.inl ⟨by rfl, ?_⟩) ?_ ?_
            rotate_left
            ·intro w'
             go_simp
             with_reducible rfl
            rotate_left
            ·exact pA
            refine pure_ (i := 8) (N := some 76) (v := ?_) (a' := ?_) #[true, false, true, true, false, false, false, true, true, false, false, false, false, false, false] rfl rfl (A1_ HT_.out (by kernel_rfl)) (fun _ _ _ h => h) (Or.inl ⟨by rfl, ?_⟩) ?_ ?_
            rotate_left
            ·intro w'
             go_simp
             with_reducible rfl
            rotate_left
            ·exact pA
            refine pure_ (i := 10) (N := some 78) (v := ?_) (a' := ?_) #[true, false, true, true, false, false, false, true, true, false, true, false, false, false, false] rfl rfl (A1_ HT_.out (by kernel_rfl)) (fun _ _ _ h => h) (Or.inl ⟨by rfl, ?_⟩) ?_ ?_
            rotate_left
            ·intro w'
             go_simp
             with_reducible rfl
            rotate_left
            ·exact pA
            refine take_ (i := 1) (N := some 69) (v := ?_) (a' := ?_) #[true, true, true, true, false, false, false, true, true, false, true, false, false, false, false] rfl rfl (B1_ HT_.out HW_.out (by kernel_rfl)) (fun _ _ _ h => h) (Or.inl ⟨by rfl, ?_⟩) hHeld ?_ ?_
            rotate_left
            ·rintro w' ⟨s0, s1, s2, s3, s4, s5, s6, s7, s8, s9, s10, s11, s12, s13, s14, s15, s16, s17, s18, s19⟩
             go_simp
             with_reducible rfl
            rotate_left
            ·exact pA
            refine take_ (i := 4) (N := some 72) (v := ?_) (a' := ?_) #[true, true, true, true, true, false, false, true, true, false, true, false, false, false, false] rfl rfl (B1_ HT_.out HW_.out (by kernel_rfl)) (fun _ _ _ h => h) (Or.inl ⟨by rfl, ?_⟩) hHeld ?_ ?_
            rotate_left
            ·rintro w' ⟨s0, s1, s2, s3, s4, s5, s6, s7, s8, s9, s10, s11, s12, s13, s14, s15, s16, s17, s18, s19⟩
             go_simp
             with_reducible rfl
            rotate_left
            ·exact pA
            refine pure_ (i := 5) (N := some 73) (v := ?_) (a' := ?_) #[true, true, true, true, true, true, false, true, true, false, true, false, false, false, false] rfl rfl (A1_ HT_.out (by kernel_rfl)) (fun _ _ _ h => h) (Or.inl ⟨by rfl, ?_⟩) ?_ ?_
            rotate_left
            ·intro w'
             go_simp
             with_reducible rfl
            rotate_left
            ·exact pA
            refine take_ (i := 6) (N := some 74) (v := ?_) (a' := ?_) #[true, true, true, true, true, true, true, true, true, false, true, false, false, false, false] rfl rfl (B1_ HT_.out HW_.out (by kernel_rfl)) (fun _ _ _ h => h) (Or.inl ⟨by rfl, ?_⟩) hHeld ?_ ?_
            rotate_left
            ·rintro w' ⟨s0, s1, s2, s3, s4, s5, s6, s7, s8, s9, s10, s11, s12, s13, s14, s15, s16, s17, s18, s19⟩
             go_simp
             with_reducible rfl
            rotate_left
            ·exact pA
            refine take_ (i := 9) (N := some 77) (v := ?_) (a' := ?_) #[true, true, true, true, true, true, true, true, true, true, true, false, false, false, false] rfl rfl (B1_ HT_.out HW_.out (by kernel_rfl)) (fun _ _ _ h => h) (Or.inl ⟨by rfl, ?_⟩) hHeld ?_ ?_
            rotate_left
            ·rintro w' ⟨s0, s1, s2, s3, s4, s5, s6, s7, s8, s9, s10, s11, s12, s13, s14, s15, s16, s17, s18, s19⟩
             go_simp
             with_reducible rfl
            rotate_left
            ·exact pA
            refine take_ (i := 11) (N := some 79) (v := ?_) (a' := ?_) #[true, true, true, true, true, true, true, true, true, true, true, true, false, false, false] rfl rfl (B1_ HT_.out HW_.out (by kernel_rfl)) (fun _ _ _ h => h) (Or.inl ⟨by rfl, ?_⟩) hHeld ?_ ?_
            rotate_left
            ·rintro w' ⟨s0, s1, s2, s3, s4, s5, s6, s7, s8, s9, s10, s11, s12, s13, s14, s15, s16, s17, s18, s19⟩
             go_simp
             with_reducible rfl
            rotate_left
            ·exact pA
            refine pure_ (i := 12) (N := some 80) (v := ?_) (a' := ?_) #[true, true, true, true, true, true, true, true, true, true, true, true, true, false, false] rfl rfl (A1_ HT_.out (by kernel_rfl)) (fun _ _ _ h => h) (Or.inl ⟨by rfl, ?_⟩) ?_ ?_
            rotate_left
            ·intro w'
             go_simp
             with_reducible rfl
            rotate_left
            ·exact pA
            refine one_ (i := 13) (N := some 11) #[true, true, true, true, true, true, true, true, true, true, true, true, true, true, false] rfl rfl (one_of HT_.out (by kernel_rfl)) (by decide) (fun K hK => ?_)
            refine box_step ?hg (N := 11) ?hd (cs := #[.string (⟨#[]⟩ : ByteArray), .int .i64 0, .int .i64 0, .int .i64 0, .int .i64 0]) (t := 62) ?hr ?_; (case hd => rfl); (case hg => rfl); (case hr => first | (go_simp; done) | (go_simp; rfl))
            intro ab hg bT hbox hb
            have aJ := A_.mk (F_ (g := ah) (o := .cells #[.int .i64 aw, .int .i64 ax, .int .i64 ay, .int .i64 az, .int .i64 aA, .int .i64 aB, .int .i64 ao, .int .i64 aC, .slice (some ad157) aa.length aO, .slice aP av.length aQ, .slice (some ad159) aj.length aF] 28 (0, 0)) (by refine kB ?_; exact ad.out) hb)
            have aK := A_.mk (F_ (g := ak) (o := .cells #[.int .i64 0, .int .i64 0, .int .i64 0, .int .i64 0] 32 (0, 0)) (by refine kB ?_; exact ai.out) hb)
            have aL := A_.mk (F_ (g := ag) (o := .cells #[.int .i64 ((Z_ aa a1).f0), .int .i64 ((Z_ aa a1).f1.f0), .int .i64 ((Z_ aa a1).f1.f1), .int .i64 ((Z_ aa a1).f1.f2), .int .i64 ((Z_ aa a1).f1.f3), .int .i64 ((Z_ aa a1).f2.f0), .int .i64 ((Z_ aa a1).f2.f1), .int .i64 ((Z_ aa a1).f2.f2)] 54 (0, 0)) (by refine kB ?_; exact ac.out) hb)
            have aR := A_.mk (E_ (by exact lB HB.out) hb)
            have aS := A_.mk (hbox)
            have bl := A_.mk ((by rw [hg]; exact (G_ (by exact lB HB.out)) : w.heap.size ≤ ab))
            have bA := A_.mk ((by rw [hg]; exact (G_ (by exact lB HB.out)) : w.heap.size ≤ ab))
            have bQ := A_.mk ((by rw [hg]; exact Nat.ne_of_lt (M_ (g := ah) (o := .cells #[.int .i64 aw, .int .i64 ax, .int .i64 ay, .int .i64 az, .int .i64 aA, .int .i64 aB, .int .i64 ao, .int .i64 aC, .slice (some ad157) aa.length aO, .slice aP av.length aQ, .slice (some ad159) aj.length aF] 28 (0, 0)) (by refine kB ?_; exact ad.out)) : ah ≠ ab))
            have bR := A_.mk ((by rw [hg]; exact Nat.ne_of_gt (M_ (g := ah) (o := .cells #[.int .i64 aw, .int .i64 ax, .int .i64 ay, .int .i64 az, .int .i64 aA, .int .i64 aB, .int .i64 ao, .int .i64 aC, .slice (some ad157) aa.length aO, .slice aP av.length aQ, .slice (some ad159) aj.length aF] 28 (0, 0)) (by refine kB ?_; exact ad.out)) : ab ≠ ah))
            have bS := A_.mk ((by rw [hg]; exact Nat.ne_of_lt (M_ (g := ak) (o := .cells #[.int .i64 0, .int .i64 0, .int .i64 0, .int .i64 0] 32 (0, 0)) (by refine kB ?_; exact ai.out)) : ak ≠ ab))
            have bM := A_.mk ((by rw [hg]; exact Nat.ne_of_gt (M_ (g := ak) (o := .cells #[.int .i64 0, .int .i64 0, .int .i64 0, .int .i64 0] 32 (0, 0)) (by refine kB ?_; exact ai.out)) : ab ≠ ak))
            have bN := A_.mk ((by rw [hg]; exact Nat.ne_of_lt (M_ (g := ag) (o := .cells #[.int .i64 ((Z_ aa a1).f0), .int .i64 ((Z_ aa a1).f1.f0), .int .i64 ((Z_ aa a1).f1.f1), .int .i64 ((Z_ aa a1).f1.f2), .int .i64 ((Z_ aa a1).f1.f3), .int .i64 ((Z_ aa a1).f2.f0), .int .i64 ((Z_ aa a1).f2.f1), .int .i64 ((Z_ aa a1).f2.f2)] 54 (0, 0)) (by refine kB ?_; exact ac.out)) : ag ≠ ab))
            have bO := A_.mk ((by rw [hg]; exact Nat.ne_of_gt (M_ (g := ag) (o := .cells #[.int .i64 ((Z_ aa a1).f0), .int .i64 ((Z_ aa a1).f1.f0), .int .i64 ((Z_ aa a1).f1.f1), .int .i64 ((Z_ aa a1).f1.f2), .int .i64 ((Z_ aa a1).f1.f3), .int .i64 ((Z_ aa a1).f2.f0), .int .i64 ((Z_ aa a1).f2.f1), .int .i64 ((Z_ aa a1).f2.f2)] 54 (0, 0)) (by refine kB ?_; exact ac.out)) : ab ≠ ag))
            clear ad
            clear ai
            clear ac
            clear HB
            have ad := aJ
            have ai := aK
            have ac := aL
            have HB := aR
            have al := aS
            have aM := bl
            have bn := bA
            have ae := bQ
            have aY := bR
            have aE := bS
            have ar := bM
            have af := bN
            have aZ := bO
            clear aJ aK aL aR aS bl bA bQ bR bS bM bN bO
            clear hb hbox hg
            refine hK.out _ _ ⟨(D_ ad.out 0).trans rfl, (D_ ad.out 1).trans rfl, (D_ ad.out 2).trans rfl, (D_ ad.out 3).trans rfl, (D_ ad.out 4).trans rfl, (D_ ad.out 5).trans rfl, (D_ ad.out 6).trans rfl, (D_ ad.out 7).trans rfl, (D_ ad.out 8).trans rfl, (D_ ad.out 9).trans rfl, (D_ ad.out 10).trans rfl, (D_ ac.out 0).trans rfl, (D_ ac.out 1).trans rfl, (D_ ac.out 2).trans rfl, (D_ ac.out 3).trans rfl, (D_ ac.out 4).trans rfl, (D_ ac.out 5).trans rfl, (D_ ac.out 6).trans rfl, (D_ ac.out 7).trans rfl, ((HB.out.cell (World.block_lt_of_cell? w _ aq)).trans aq)⟩ (fun hHeld => ?_)
            clear hK K
            refine norm_ (a' := ?_) ?_ ?_
            rotate_left
            ·show Act.put _ (some 11) _ = _
             exact pA
            refine one_ (i := 14) (N := none) #[true, true, true, true, true, true, true, true, true, true, true, true, true, true, true] rfl rfl (one_of HT_.out (by kernel_rfl)) (by decide) (fun K hK => ?_)
            have mq : bT.cell? ⟨ab, 0, none⟩ = some (.string (⟨#[]⟩ : ByteArray)) := (D_ al.out 0).trans rfl
            have lH := B_ al.out 0
            have iH := ae.out
            have iI := aE.out
            have iJ := af.out
            have iK := aY.out
            have iL := ar.out
            have iM := aZ.out
            have mr : bT.cell? ⟨ab, 1, none⟩ = some (.int .i64 0) := (D_ al.out 1).trans rfl
            have lI := B_ al.out 1
            have iN := ae.out
            have iO := aE.out
            have iP := af.out
            have iQ := aY.out
            have iR := ar.out
            have iS := aZ.out
            have ms : bT.cell? ⟨ab, 2, none⟩ = some (.int .i64 0) := (D_ al.out 2).trans rfl
            have lJ := B_ al.out 2
            have iT := ae.out
            have iU := aE.out
            have iV := af.out
            have iW := aY.out
            have iX := ar.out
            have iY := aZ.out
            have mt : bT.cell? ⟨ab, 3, none⟩ = some (.int .i64 0) := (D_ al.out 3).trans rfl
            have lK := B_ al.out 3
            have iZ := ae.out
            have i0 := aE.out
            have i1 := af.out
            have i2 := aY.out
            have i3 := ar.out
            have i4 := aZ.out
            have mu : bT.cell? ⟨ab, 4, none⟩ = some (.int .i64 0) := (D_ al.out 4).trans rfl
            have lL := B_ al.out 4
            have i5 := ae.out
            have i6 := aE.out
            have i7 := af.out
            have i8 := aY.out
            have i9 := ar.out
            have ja := aZ.out
            refine skip_ (w1 := ?_) (by rfl) rfl ?_ ?_
            rotate_left
            ·go_simp
             rfl
            refine hK.out _ _ ⟨((I_ (p := ⟨ab, _, none⟩) ae.out _).trans (((I_ (p := ⟨ab, _, none⟩) ae.out _).trans (((I_ (p := ⟨ab, _, none⟩) ae.out _).trans (((I_ (p := ⟨ab, _, none⟩) ae.out _).trans (((I_ (p := ⟨ab, _, none⟩) ae.out _).trans (hHeld.1)))))))))), ((I_ (p := ⟨ab, _, none⟩) ae.out _).trans (((I_ (p := ⟨ab, _, none⟩) ae.out _).trans (((I_ (p := ⟨ab, _, none⟩) ae.out _).trans (((I_ (p := ⟨ab, _, none⟩) ae.out _).trans (((I_ (p := ⟨ab, _, none⟩) ae.out _).trans (hHeld.2.1)))))))))), ((I_ (p := ⟨ab, _, none⟩) ae.out _).trans (((I_ (p := ⟨ab, _, none⟩) ae.out _).trans (((I_ (p := ⟨ab, _, none⟩) ae.out _).trans (((I_ (p := ⟨ab, _, none⟩) ae.out _).trans (((I_ (p := ⟨ab, _, none⟩) ae.out _).trans (hHeld.2.2.1)))))))))), ((I_ (p := ⟨ab, _, none⟩) ae.out _).trans (((I_ (p := ⟨ab, _, none⟩) ae.out _).trans (((I_ (p := ⟨ab, _, none⟩) ae.out _).trans (((I_ (p := ⟨ab, _, none⟩) ae.out _).trans (((I_ (p := ⟨ab, _, none⟩) ae.out _).trans (hHeld.2.2.2.1)))))))))), ((I_ (p := ⟨ab, _, none⟩) ae.out _).trans (((I_ (p := ⟨ab, _, none⟩) ae.out _).trans (((I_ (p := ⟨ab, _, none⟩) ae.out _).trans (((I_ (p := ⟨ab, _, none⟩) ae.out _).trans (((I_ (p := ⟨ab, _, none⟩) ae.out _).trans (hHeld.2.2.2.2.1)))))))))), ((I_ (p := ⟨ab, _, none⟩) ae.out _).trans (((I_ (p := ⟨ab, _, none⟩) ae.out _).trans (((I_ (p := ⟨ab, _, none⟩) ae.out _).trans (((I_ (p := ⟨ab, _, none⟩) ae.out _).trans (((I_ (p := ⟨ab, _, none⟩) ae.out _).trans (hHeld.2.2.2.2.2.1)))))))))), ((I_ (p := ⟨ab, _, none⟩) ae.out _).trans (((I_ (p := ⟨ab, _, none⟩) ae.out _).trans (((I_ (p := ⟨ab, _, none⟩) ae.out _).trans (((I_ (p := ⟨ab, _, none⟩) ae.out _).trans (((I_ (p := ⟨ab, _, none⟩) ae.out _).trans (hHeld.2.2.2.2.2.2.1)))))))))), ((I_ (p := ⟨ab, _, none⟩) ae.out _).trans (((I_ (p := ⟨ab, _, none⟩) ae.out _).trans (((I_ (p := ⟨ab, _, none⟩) ae.out _).trans (((I_ (p := ⟨ab, _, none⟩) ae.out _).trans (((I_ (p := ⟨ab, _, none⟩) ae.out _).trans (hHeld.2.2.2.2.2.2.2.1)))))))))), ((I_ (p := ⟨ab, _, none⟩) ae.out _).trans (((I_ (p := ⟨ab, _, none⟩) ae.out _).trans (((I_ (p := ⟨ab, _, none⟩) ae.out _).trans (((I_ (p := ⟨ab, _, none⟩) ae.out _).trans (((I_ (p := ⟨ab, _, none⟩) ae.out _).trans (hHeld.2.2.2.2.2.2.2.2.1)))))))))), ((I_ (p := ⟨ab, _, none⟩) ae.out _).trans (((I_ (p := ⟨ab, _, none⟩) ae.out _).trans (((I_ (p := ⟨ab, _, none⟩) ae.out _).trans (((I_ (p := ⟨ab, _, none⟩) ae.out _).trans (((I_ (p := ⟨ab, _, none⟩) ae.out _).trans (hHeld.2.2.2.2.2.2.2.2.2.1)))))))))), ((I_ (p := ⟨ab, _, none⟩) ae.out _).trans (((I_ (p := ⟨ab, _, none⟩) ae.out _).trans (((I_ (p := ⟨ab, _, none⟩) ae.out _).trans (((I_ (p := ⟨ab, _, none⟩) ae.out _).trans (((I_ (p := ⟨ab, _, none⟩) ae.out _).trans (hHeld.2.2.2.2.2.2.2.2.2.2.1)))))))))), ((I_ (p := ⟨ab, _, none⟩) af.out _).trans (((I_ (p := ⟨ab, _, none⟩) af.out _).trans (((I_ (p := ⟨ab, _, none⟩) af.out _).trans (((I_ (p := ⟨ab, _, none⟩) af.out _).trans (((I_ (p := ⟨ab, _, none⟩) af.out _).trans (hHeld.2.2.2.2.2.2.2.2.2.2.2.1)))))))))), ((I_ (p := ⟨ab, _, none⟩) af.out _).trans (((I_ (p := ⟨ab, _, none⟩) af.out _).trans (((I_ (p := ⟨ab, _, none⟩) af.out _).trans (((I_ (p := ⟨ab, _, none⟩) af.out _).trans (((I_ (p := ⟨ab, _, none⟩) af.out _).trans (hHeld.2.2.2.2.2.2.2.2.2.2.2.2.1)))))))))), ((I_ (p := ⟨ab, _, none⟩) af.out _).trans (((I_ (p := ⟨ab, _, none⟩) af.out _).trans (((I_ (p := ⟨ab, _, none⟩) af.out _).trans (((I_ (p := ⟨ab, _, none⟩) af.out _).trans (((I_ (p := ⟨ab, _, none⟩) af.out _).trans (hHeld.2.2.2.2.2.2.2.2.2.2.2.2.2.1)))))))))), ((I_ (p := ⟨ab, _, none⟩) af.out _).trans (((I_ (p := ⟨ab, _, none⟩) af.out _).trans (((I_ (p := ⟨ab, _, none⟩) af.out _).trans (((I_ (p := ⟨ab, _, none⟩) af.out _).trans (((I_ (p := ⟨ab, _, none⟩) af.out _).trans (hHeld.2.2.2.2.2.2.2.2.2.2.2.2.2.2.1)))))))))), ((I_ (p := ⟨ab, _, none⟩) af.out _).trans (((I_ (p := ⟨ab, _, none⟩) af.out _).trans (((I_ (p := ⟨ab, _, none⟩) af.out _).trans (((I_ (p := ⟨ab, _, none⟩) af.out _).trans (((I_ (p := ⟨ab, _, none⟩) af.out _).trans (hHeld.2.2.2.2.2.2.2.2.2.2.2.2.2.2.2.1)))))))))), ((I_ (p := ⟨ab, _, none⟩) af.out _).trans (((I_ (p := ⟨ab, _, none⟩) af.out _).trans (((I_ (p := ⟨ab, _, none⟩) af.out _).trans (((I_ (p := ⟨ab, _, none⟩) af.out _).trans (((I_ (p := ⟨ab, _, none⟩) af.out _).trans (hHeld.2.2.2.2.2.2.2.2.2.2.2.2.2.2.2.2.1)))))))))), ((I_ (p := ⟨ab, _, none⟩) af.out _).trans (((I_ (p := ⟨ab, _, none⟩) af.out _).trans (((I_ (p := ⟨ab, _, none⟩) af.out _).trans (((I_ (p := ⟨ab, _, none⟩) af.out _).trans (((I_ (p := ⟨ab, _, none⟩) af.out _).trans (hHeld.2.2.2.2.2.2.2.2.2.2.2.2.2.2.2.2.2.1)))))))))), ((I_ (p := ⟨ab, _, none⟩) af.out _).trans (((I_ (p := ⟨ab, _, none⟩) af.out _).trans (((I_ (p := ⟨ab, _, none⟩) af.out _).trans (((I_ (p := ⟨ab, _, none⟩) af.out _).trans (((I_ (p := ⟨ab, _, none⟩) af.out _).trans (hHeld.2.2.2.2.2.2.2.2.2.2.2.2.2.2.2.2.2.2.1)))))))))), ((I_ (p := ⟨ab, _, none⟩) (by first | exact Nat.ne_of_lt (Nat.lt_of_lt_of_le (by have := World.block_lt_of_cell? _ _ aq; first | rwa [add_block] at this | exact this) aM.out) | (rw [add_block]; exact Nat.ne_of_lt (Nat.lt_of_lt_of_le (by have := World.block_lt_of_cell? _ _ aq; first | rwa [add_block] at this | exact this) aM.out)) | (show (Addr.add _ _).block ≠ _; rw [add_block]; exact Nat.ne_of_lt (Nat.lt_of_lt_of_le (by have := World.block_lt_of_cell? _ _ aq; first | rwa [add_block] at this | exact this) aM.out)) | (dsimp only; exact Nat.ne_of_lt (Nat.lt_of_lt_of_le (by have := World.block_lt_of_cell? _ _ aq; first | rwa [add_block] at this | exact this) aM.out))) _).trans (((I_ (p := ⟨ab, _, none⟩) (by first | exact Nat.ne_of_lt (Nat.lt_of_lt_of_le (by have := World.block_lt_of_cell? _ _ aq; first | rwa [add_block] at this | exact this) aM.out) | (rw [add_block]; exact Nat.ne_of_lt (Nat.lt_of_lt_of_le (by have := World.block_lt_of_cell? _ _ aq; first | rwa [add_block] at this | exact this) aM.out)) | (show (Addr.add _ _).block ≠ _; rw [add_block]; exact Nat.ne_of_lt (Nat.lt_of_lt_of_le (by have := World.block_lt_of_cell? _ _ aq; first | rwa [add_block] at this | exact this) aM.out)) | (dsimp only; exact Nat.ne_of_lt (Nat.lt_of_lt_of_le (by have := World.block_lt_of_cell? _ _ aq; first | rwa [add_block] at this | exact this) aM.out))) _).trans (((I_ (p := ⟨ab, _, none⟩) (by first | exact Nat.ne_of_lt (Nat.lt_of_lt_of_le (by have := World.block_lt_of_cell? _ _ aq; first | rwa [add_block] at this | exact this) aM.out) | (rw [add_block]; exact Nat.ne_of_lt (Nat.lt_of_lt_of_le (by have := World.block_lt_of_cell? _ _ aq; first | rwa [add_block] at this | exact this) aM.out)) | (show (Addr.add _ _).block ≠ _; rw [add_block]; exact Nat.ne_of_lt (Nat.lt_of_lt_of_le (by have := World.block_lt_of_cell? _ _ aq; first | rwa [add_block] at this | exact this) aM.out)) | (dsimp only; exact Nat.ne_of_lt (Nat.lt_of_lt_of_le (by have := World.block_lt_of_cell? _ _ aq; first | rwa [add_block] at this | exact this) aM.out))) _).trans (((I_ (p := ⟨ab, _, none⟩) (by first | exact Nat.ne_of_lt (Nat.lt_of_lt_of_le (by have := World.block_lt_of_cell? _ _ aq; first | rwa [add_block] at this | exact this) aM.out) | (rw [add_block]; exact Nat.ne_of_lt (Nat.lt_of_lt_of_le (by have := World.block_lt_of_cell? _ _ aq; first | rwa [add_block] at this | exact this) aM.out)) | (show (Addr.add _ _).block ≠ _; rw [add_block]; exact Nat.ne_of_lt (Nat.lt_of_lt_of_le (by have := World.block_lt_of_cell? _ _ aq; first | rwa [add_block] at this | exact this) aM.out)) | (dsimp only; exact Nat.ne_of_lt (Nat.lt_of_lt_of_le (by have := World.block_lt_of_cell? _ _ aq; first | rwa [add_block] at this | exact this) aM.out))) _).trans (((I_ (p := ⟨ab, _, none⟩) (by first | exact Nat.ne_of_lt (Nat.lt_of_lt_of_le (by have := World.block_lt_of_cell? _ _ aq; first | rwa [add_block] at this | exact this) aM.out) | (rw [add_block]; exact Nat.ne_of_lt (Nat.lt_of_lt_of_le (by have := World.block_lt_of_cell? _ _ aq; first | rwa [add_block] at this | exact this) aM.out)) | (show (Addr.add _ _).block ≠ _; rw [add_block]; exact Nat.ne_of_lt (Nat.lt_of_lt_of_le (by have := World.block_lt_of_cell? _ _ aq; first | rwa [add_block] at this | exact this) aM.out)) | (dsimp only; exact Nat.ne_of_lt (Nat.lt_of_lt_of_le (by have := World.block_lt_of_cell? _ _ aq; first | rwa [add_block] at this | exact this) aM.out))) _).trans (hHeld.2.2.2.2.2.2.2.2.2.2.2.2.2.2.2.2.2.2.2))))))))))⟩ (fun hHeld => ?_)
            clear hK K
            refine done_ (done_of HT_.out (by kernel_rfl)) ?_
            have lM := bq.out
            have lN := an.out
            have lO := aX.out
            have lP := am.out
            have lQ := af.out
            have lR := aZ.out
            have jb : bT.cell? ⟨ag, 0, none⟩ = some (.int .i64 ((Z_ aa a1).f0)) := (D_ ac.out 0).trans rfl
            have jc : bT.cell? ⟨ag, 1, none⟩ = some (.int .i64 ((Z_ aa a1).f1.f0)) := (D_ ac.out 1).trans rfl
            have jd : bT.cell? ⟨ag, 2, none⟩ = some (.int .i64 ((Z_ aa a1).f1.f1)) := (D_ ac.out 2).trans rfl
            have je : bT.cell? ⟨ag, 3, none⟩ = some (.int .i64 ((Z_ aa a1).f1.f2)) := (D_ ac.out 3).trans rfl
            have jf : bT.cell? ⟨ag, 4, none⟩ = some (.int .i64 ((Z_ aa a1).f1.f3)) := (D_ ac.out 4).trans rfl
            have jg : bT.cell? ⟨ag, 5, none⟩ = some (.int .i64 ((Z_ aa a1).f2.f0)) := (D_ ac.out 5).trans rfl
            have jh : bT.cell? ⟨ag, 6, none⟩ = some (.int .i64 ((Z_ aa a1).f2.f1)) := (D_ ac.out 6).trans rfl
            have ji : bT.cell? ⟨ag, 7, none⟩ = some (.int .i64 ((Z_ aa a1).f2.f2)) := (D_ ac.out 7).trans rfl
            have jj := B_ ac.out 0
            have jk := B_ ac.out 1
            have jl := B_ ac.out 2
            have jm := B_ ac.out 3
            have jn := B_ ac.out 4
            have jo := B_ ac.out 5
            have jp := B_ ac.out 6
            have jq := B_ ac.out 7
            try go_wp2_with (first | ((with_reducible refine P_ (f := 17) rfl ?_); refine R_ (some 86) rfl rfl Tryd.func17 (by kernel_rfl) rfl #[.int .i64 a2, .int .i64 ((Z_ aa a1).f1.f2)] rfl (by (try simp only [List.map_toArray, List.map_cons, List.map_nil]); first | done | rfl | (simp only [List.length_drop, List.length_take]; rfl)) ?_; (with_reducible refine (sample_part.calls a2 ((Z_ aa a1).f1.f2) bx bz _ A58.out).mono ?_); rintro e cm ⟨rfl, hb⟩; refine ⟨_, rfl, ?_⟩; have aJ := A_.mk (F_ (g := ah) (o := .cells #[.int .i64 aw, .int .i64 ax, .int .i64 ay, .int .i64 az, .int .i64 aA, .int .i64 aB, .int .i64 ao, .int .i64 aC, .slice (some ad157) aa.length aO, .slice aP av.length aQ, .slice (some ad159) aj.length aF] 28 (0, 0)) (by refine kB ?_; refine J_ ?_ ae.out _; refine kB ?_; refine J_ ?_ ae.out _; refine kB ?_; refine J_ ?_ ae.out _; refine kB ?_; refine J_ ?_ ae.out _; refine kB ?_; refine J_ ?_ ae.out _; refine kB ?_; exact ad.out) hb); have aK := A_.mk (F_ (g := ak) (o := .cells #[.int .i64 0, .int .i64 0, .int .i64 0, .int .i64 0] 32 (0, 0)) (by refine kB ?_; refine J_ ?_ aE.out _; refine kB ?_; refine J_ ?_ aE.out _; refine kB ?_; refine J_ ?_ aE.out _; refine kB ?_; refine J_ ?_ aE.out _; refine kB ?_; refine J_ ?_ aE.out _; refine kB ?_; exact ai.out) hb); have aL := A_.mk (F_ (g := ag) (o := .cells #[.int .i64 ((Z_ aa a1).f0), .int .i64 ((Z_ aa a1).f1.f0), .int .i64 ((Z_ aa a1).f1.f1), .int .i64 ((Z_ aa a1).f1.f2), .int .i64 ((Z_ aa a1).f1.f3), .int .i64 ((Z_ aa a1).f2.f0), .int .i64 ((Z_ aa a1).f2.f1), .int .i64 ((Z_ aa a1).f2.f2)] 54 (0, 0)) (by refine kB ?_; refine J_ ?_ af.out _; refine kB ?_; refine J_ ?_ af.out _; refine kB ?_; refine J_ ?_ af.out _; refine kB ?_; refine J_ ?_ af.out _; refine kB ?_; refine J_ ?_ af.out _; refine kB ?_; exact ac.out) hb); have aR := A_.mk (F_ (g := ab) (o := .cells #[.string (rdOf ByteArray.empty aj ((Z_ aa a1).f2.f0)), .int .i64 ao, .int .i64 ((Z_ aa a1).f2.f0), .int .i64 ((Z_ aa a1).f2.f1), .int .i64 ((Z_ aa a1).f2.f2)] 62 (0, 0)) (by refine kB ?_; refine L_ (cs := #[.string (rdOf ByteArray.empty aj ((Z_ aa a1).f2.f0)), .int .i64 ao, .int .i64 ((Z_ aa a1).f2.f0), .int .i64 ((Z_ aa a1).f2.f1), .int .i64 0]) ?_ 4 _ rfl; refine kB ?_; refine L_ (cs := #[.string (rdOf ByteArray.empty aj ((Z_ aa a1).f2.f0)), .int .i64 ao, .int .i64 ((Z_ aa a1).f2.f0), .int .i64 0, .int .i64 0]) ?_ 3 _ rfl; refine kB ?_; refine L_ (cs := #[.string (rdOf ByteArray.empty aj ((Z_ aa a1).f2.f0)), .int .i64 ao, .int .i64 0, .int .i64 0, .int .i64 0]) ?_ 2 _ rfl; refine kB ?_; refine L_ (cs := #[.string (rdOf ByteArray.empty aj ((Z_ aa a1).f2.f0)), .int .i64 0, .int .i64 0, .int .i64 0, .int .i64 0]) ?_ 1 _ rfl; refine kB ?_; refine L_ (cs := #[.string (⟨#[]⟩ : ByteArray), .int .i64 0, .int .i64 0, .int .i64 0, .int .i64 0]) ?_ 0 _ rfl; refine kB ?_; exact al.out) hb); have aS := A_.mk (E_ (by exact lB HB.out) hb); clear ad; clear ai; clear ac; clear al; clear HB; have ad := aJ; have ai := aK; have ac := aL; have al := aR; have HB := aS; clear aJ aK aL aR aS; (try clear hb); (try clear b3); (try clear hk); (try clear hi); have jr : cm.cell? ⟨ag, 0, none⟩ = some (.int .i64 ((Z_ aa a1).f0)) := (D_ ac.out 0).trans rfl; have js : cm.cell? ⟨ag, 1, none⟩ = some (.int .i64 ((Z_ aa a1).f1.f0)) := (D_ ac.out 1).trans rfl; have jt : cm.cell? ⟨ag, 2, none⟩ = some (.int .i64 ((Z_ aa a1).f1.f1)) := (D_ ac.out 2).trans rfl; have ju : cm.cell? ⟨ag, 3, none⟩ = some (.int .i64 ((Z_ aa a1).f1.f2)) := (D_ ac.out 3).trans rfl; have jv : cm.cell? ⟨ag, 4, none⟩ = some (.int .i64 ((Z_ aa a1).f1.f3)) := (D_ ac.out 4).trans rfl; have jw : cm.cell? ⟨ag, 5, none⟩ = some (.int .i64 ((Z_ aa a1).f2.f0)) := (D_ ac.out 5).trans rfl; have jx : cm.cell? ⟨ag, 6, none⟩ = some (.int .i64 ((Z_ aa a1).f2.f1)) := (D_ ac.out 6).trans rfl; have jy : cm.cell? ⟨ag, 7, none⟩ = some (.int .i64 ((Z_ aa a1).f2.f2)) := (D_ ac.out 7).trans rfl; have jz := B_ ac.out 0; have jA := B_ ac.out 1; have jB := B_ ac.out 2; have jC := B_ ac.out 3; have jD := B_ ac.out 4; have jE := B_ ac.out 5; have jF := B_ ac.out 6; have jG := B_ ac.out 7) | ((with_reducible refine P_ (f := 17) rfl ?_); refine R_ (some 94) rfl rfl Tryd.func17 (by kernel_rfl) rfl #[.int .i64 a3, .int .i64 ((Z_ aa a1).f1.f3)] rfl (by (try simp only [List.map_toArray, List.map_cons, List.map_nil]); first | done | rfl | (simp only [List.length_drop, List.length_take]; rfl)) ?_; (with_reducible refine (sample_part.calls a3 ((Z_ aa a1).f1.f3) bL bw _ A59.out).mono ?_); rintro e et ⟨rfl, hb⟩; refine ⟨_, rfl, ?_⟩; have aJ := A_.mk (F_ (g := ah) (o := .cells #[.int .i64 aw, .int .i64 ax, .int .i64 ay, .int .i64 az, .int .i64 aA, .int .i64 aB, .int .i64 ao, .int .i64 aC, .slice (some ad157) aa.length aO, .slice aP av.length aQ, .slice (some ad159) aj.length aF] 28 (0, 0)) (by refine kB ?_; exact ad.out) hb); have aK := A_.mk (F_ (g := ak) (o := .cells #[.int .i64 0, .int .i64 0, .int .i64 0, .int .i64 0] 32 (0, 0)) (by refine kB ?_; exact ai.out) hb); have aL := A_.mk (F_ (g := ag) (o := .cells #[.int .i64 ((Z_ aa a1).f0), .int .i64 ((Z_ aa a1).f1.f0), .int .i64 ((Z_ aa a1).f1.f1), .int .i64 ((Z_ aa a1).f1.f2), .int .i64 ((Z_ aa a1).f1.f3), .int .i64 ((Z_ aa a1).f2.f0), .int .i64 ((Z_ aa a1).f2.f1), .int .i64 ((Z_ aa a1).f2.f2)] 54 (0, 0)) (by refine kB ?_; exact ac.out) hb); have aR := A_.mk (F_ (g := ab) (o := .cells #[.string (rdOf ByteArray.empty aj ((Z_ aa a1).f2.f0)), .int .i64 ao, .int .i64 ((Z_ aa a1).f2.f0), .int .i64 ((Z_ aa a1).f2.f1), .int .i64 ((Z_ aa a1).f2.f2)] 62 (0, 0)) (by refine kB ?_; exact al.out) hb); have aS := A_.mk (E_ (by exact lB HB.out) hb); clear ad; clear ai; clear ac; clear al; clear HB; have ad := aJ; have ai := aK; have ac := aL; have al := aR; have HB := aS; clear aJ aK aL aR aS; (try clear hb); (try clear b3); (try clear hk); (try clear hi); have lS := aY.out; have lT := ae.out; have lU := ar.out; have lV := aE.out; have jH : et.cell? ⟨ab, 0, none⟩ = some (.string (rdOf ByteArray.empty aj ((Z_ aa a1).f2.f0))) := (D_ al.out 0).trans rfl; have jI : et.cell? ⟨ab, 1, none⟩ = some (.int .i64 ao) := (D_ al.out 1).trans rfl; have jJ : et.cell? ⟨ab, 2, none⟩ = some (.int .i64 ((Z_ aa a1).f2.f0)) := (D_ al.out 2).trans rfl; have jK : et.cell? ⟨ab, 3, none⟩ = some (.int .i64 ((Z_ aa a1).f2.f1)) := (D_ al.out 3).trans rfl; have jL : et.cell? ⟨ab, 4, none⟩ = some (.int .i64 ((Z_ aa a1).f2.f2)) := (D_ al.out 4).trans rfl; have jM := B_ al.out 0; have jN := B_ al.out 1; have jO := B_ al.out 2; have jP := B_ al.out 3; have jQ := B_ al.out 4) | ((with_reducible refine P_ (f := 18) rfl ?_); refine R_ (some 101) rfl rfl Tryd.func18 (by kernel_rfl) rfl #[.agg #[.string (rdOf ByteArray.empty aj ((Z_ aa a1).f2.f0)), .int .i64 ao, .int .i64 ((Z_ aa a1).f2.f0), .int .i64 ((Z_ aa a1).f2.f1), .int .i64 ((Z_ aa a1).f2.f2)], .int .i64 bx, .int .i64 bL, .int .i64 bz] rfl (by (try simp only [List.map_toArray, List.map_cons, List.map_nil]); first | done | rfl | (simp only [List.length_drop, List.length_take]; rfl)) ?_; (with_reducible refine (sample_sampler_row.calls (rdOf ByteArray.empty aj ((Z_ aa a1).f2.f0)) ao ((Z_ aa a1).f2.f0) ((Z_ aa a1).f2.f1) ((Z_ aa a1).f2.f2) bx bL bz bc bd bh bm _ A60.out).mono ?_); rintro e mI ⟨rfl, hb⟩; refine ⟨_, rfl, ?_⟩; have aJ := A_.mk (F_ (g := ah) (o := .cells #[.int .i64 aw, .int .i64 ax, .int .i64 ay, .int .i64 az, .int .i64 aA, .int .i64 aB, .int .i64 ao, .int .i64 aC, .slice (some ad157) aa.length aO, .slice aP av.length aQ, .slice (some ad159) aj.length aF] 28 (0, 0)) (by refine kB ?_; exact ad.out) hb); have aK := A_.mk (F_ (g := ak) (o := .cells #[.int .i64 0, .int .i64 0, .int .i64 0, .int .i64 0] 32 (0, 0)) (by refine kB ?_; exact ai.out) hb); have aL := A_.mk (F_ (g := ag) (o := .cells #[.int .i64 ((Z_ aa a1).f0), .int .i64 ((Z_ aa a1).f1.f0), .int .i64 ((Z_ aa a1).f1.f1), .int .i64 ((Z_ aa a1).f1.f2), .int .i64 ((Z_ aa a1).f1.f3), .int .i64 ((Z_ aa a1).f2.f0), .int .i64 ((Z_ aa a1).f2.f1), .int .i64 ((Z_ aa a1).f2.f2)] 54 (0, 0)) (by refine kB ?_; exact ac.out) hb); have aR := A_.mk (F_ (g := ab) (o := .cells #[.string (rdOf ByteArray.empty aj ((Z_ aa a1).f2.f0)), .int .i64 ao, .int .i64 ((Z_ aa a1).f2.f0), .int .i64 ((Z_ aa a1).f2.f1), .int .i64 ((Z_ aa a1).f2.f2)] 62 (0, 0)) (by refine kB ?_; exact al.out) hb); have aS := A_.mk (E_ (by exact lB HB.out) hb); clear ad; clear ai; clear ac; clear al; clear HB; have ad := aJ; have ai := aK; have ac := aL; have al := aR; have HB := aS; clear aJ aK aL aR aS; (try clear hb); (try clear b3); (try clear hk); (try clear hi)) | ((with_reducible refine O_ (N := 16) rfl ?_); (try (refine Q_ (by rfl) ?_; dsimp only)); refine N_ ?hg (N := 16) ?hd (cs := #[.int .i64 0, .int .i64 0, .int .i64 0, .int .i64 0]) (t := 32) ?hr ?_; (case hd => rfl); (case hg => rfl); (case hr => first | (go_simp; done) | (go_simp; rfl)); intro au hg eH hbox hb; have aJ := A_.mk (F_ (g := ah) (o := .cells #[.int .i64 aw, .int .i64 ax, .int .i64 ay, .int .i64 az, .int .i64 aA, .int .i64 aB, .int .i64 ao, .int .i64 aC, .slice (some ad157) aa.length aO, .slice aP av.length aQ, .slice (some ad159) aj.length aF] 28 (0, 0)) (by refine kB ?_; exact ad.out) hb); have aK := A_.mk (F_ (g := ak) (o := .cells #[.int .i64 0, .int .i64 0, .int .i64 0, .int .i64 0] 32 (0, 0)) (by refine kB ?_; exact ai.out) hb); have aL := A_.mk (F_ (g := ag) (o := .cells #[.int .i64 ((Z_ aa a1).f0), .int .i64 ((Z_ aa a1).f1.f0), .int .i64 ((Z_ aa a1).f1.f1), .int .i64 ((Z_ aa a1).f1.f2), .int .i64 ((Z_ aa a1).f1.f3), .int .i64 ((Z_ aa a1).f2.f0), .int .i64 ((Z_ aa a1).f2.f1), .int .i64 ((Z_ aa a1).f2.f2)] 54 (0, 0)) (by refine kB ?_; exact ac.out) hb); have aR := A_.mk (F_ (g := ab) (o := .cells #[.string (rdOf ByteArray.empty aj ((Z_ aa a1).f2.f0)), .int .i64 ao, .int .i64 ((Z_ aa a1).f2.f0), .int .i64 ((Z_ aa a1).f2.f1), .int .i64 ((Z_ aa a1).f2.f2)] 62 (0, 0)) (by refine kB ?_; exact al.out) hb); have aS := A_.mk (E_ (by exact lB HB.out) hb); have bl := A_.mk (hbox); have bA := A_.mk ((by rw [hg]; exact (G_ (by exact lB HB.out)) : w.heap.size ≤ au)); have bQ := A_.mk ((by rw [hg]; exact (G_ (by exact lB HB.out)) : w.heap.size ≤ au)); have bR := A_.mk ((by rw [hg]; exact Nat.ne_of_lt (M_ (g := ah) (o := .cells #[.int .i64 aw, .int .i64 ax, .int .i64 ay, .int .i64 az, .int .i64 aA, .int .i64 aB, .int .i64 ao, .int .i64 aC, .slice (some ad157) aa.length aO, .slice aP av.length aQ, .slice (some ad159) aj.length aF] 28 (0, 0)) (by refine kB ?_; exact ad.out)) : ah ≠ au)); have bS := A_.mk ((by rw [hg]; exact Nat.ne_of_gt (M_ (g := ah) (o := .cells #[.int .i64 aw, .int .i64 ax, .int .i64 ay, .int .i64 az, .int .i64 aA, .int .i64 aB, .int .i64 ao, .int .i64 aC, .slice (some ad157) aa.length aO, .slice aP av.length aQ, .slice (some ad159) aj.length aF] 28 (0, 0)) (by refine kB ?_; exact ad.out)) : au ≠ ah)); have bM := A_.mk ((by rw [hg]; exact Nat.ne_of_lt (M_ (g := ak) (o := .cells #[.int .i64 0, .int .i64 0, .int .i64 0, .int .i64 0] 32 (0, 0)) (by refine kB ?_; exact ai.out)) : ak ≠ au)); have bN := A_.mk ((by rw [hg]; exact Nat.ne_of_gt (M_ (g := ak) (o := .cells #[.int .i64 0, .int .i64 0, .int .i64 0, .int .i64 0] 32 (0, 0)) (by refine kB ?_; exact ai.out)) : au ≠ ak)); have bO := A_.mk ((by rw [hg]; exact Nat.ne_of_lt (M_ (g := ag) (o := .cells #[.int .i64 ((Z_ aa a1).f0), .int .i64 ((Z_ aa a1).f1.f0), .int .i64 ((Z_ aa a1).f1.f1), .int .i64 ((Z_ aa a1).f1.f2), .int .i64 ((Z_ aa a1).f1.f3), .int .i64 ((Z_ aa a1).f2.f0), .int .i64 ((Z_ aa a1).f2.f1), .int .i64 ((Z_ aa a1).f2.f2)] 54 (0, 0)) (by refine kB ?_; exact ac.out)) : ag ≠ au)); have cF := A_.mk ((by rw [hg]; exact Nat.ne_of_gt (M_ (g := ag) (o := .cells #[.int .i64 ((Z_ aa a1).f0), .int .i64 ((Z_ aa a1).f1.f0), .int .i64 ((Z_ aa a1).f1.f1), .int .i64 ((Z_ aa a1).f1.f2), .int .i64 ((Z_ aa a1).f1.f3), .int .i64 ((Z_ aa a1).f2.f0), .int .i64 ((Z_ aa a1).f2.f1), .int .i64 ((Z_ aa a1).f2.f2)] 54 (0, 0)) (by refine kB ?_; exact ac.out)) : au ≠ ag)); have cG := A_.mk ((by rw [hg]; exact Nat.ne_of_lt (M_ (g := ab) (o := .cells #[.string (rdOf ByteArray.empty aj ((Z_ aa a1).f2.f0)), .int .i64 ao, .int .i64 ((Z_ aa a1).f2.f0), .int .i64 ((Z_ aa a1).f2.f1), .int .i64 ((Z_ aa a1).f2.f2)] 62 (0, 0)) (by refine kB ?_; exact al.out)) : ab ≠ au)); have cH := A_.mk ((by rw [hg]; exact Nat.ne_of_gt (M_ (g := ab) (o := .cells #[.string (rdOf ByteArray.empty aj ((Z_ aa a1).f2.f0)), .int .i64 ao, .int .i64 ((Z_ aa a1).f2.f0), .int .i64 ((Z_ aa a1).f2.f1), .int .i64 ((Z_ aa a1).f2.f2)] 62 (0, 0)) (by refine kB ?_; exact al.out)) : au ≠ ab)); clear ad; clear ai; clear ac; clear al; clear HB; have ad := aJ; have ai := aK; have ac := aL; have al := aR; have HB := aS; have aG := bl; have gZ := bA; have bW := bQ; have bi := bR; have b5 := bS; have aW := bM; have aI := bN; have bj := bO; have b6 := cF; have bk := cG; have b7 := cH; clear aJ aK aL aR aS bl bA bQ bR bS bM bN bO cF cG cH; clear hb hbox hg; have lW := b5.out; have lX := bi.out; have lY := aI.out; have lZ := aW.out; have l0 := b6.out; have l1 := bj.out; have l2 := b7.out; have l3 := bk.out; have jR : eH.cell? ⟨au, 0, none⟩ = some (.int .i64 0) := (D_ aG.out 0).trans rfl; have jS : eH.cell? ⟨au, 1, none⟩ = some (.int .i64 0) := (D_ aG.out 1).trans rfl; have jT : eH.cell? ⟨au, 2, none⟩ = some (.int .i64 0) := (D_ aG.out 2).trans rfl; have jU : eH.cell? ⟨au, 3, none⟩ = some (.int .i64 0) := (D_ aG.out 3).trans rfl; have jV := B_ aG.out 0; have jW := B_ aG.out 1; have jX := B_ aG.out 2; have jY := B_ aG.out 3) | ((with_reducible refine P_ (f := 19) rfl ?_); refine R_ (some 106) rfl rfl Tryd.func19 (by kernel_rfl) rfl #[.agg #[.int .i64 bc, .int .i64 bd, .int .i64 bh, .int .i64 bm], .agg #[.int .i64 bc, .int .i64 bd, .int .i64 bh, .int .i64 bm], .int .i64 0] rfl (by (try simp only [List.map_toArray, List.map_cons, List.map_nil]); first | done | rfl | (simp only [List.length_drop, List.length_take]; rfl)) ?_; (with_reducible refine (sample_mixed.calls bc bd bh bm bc bd bh bm 0 ck cE ej ex _ A62.out).mono ?_); rintro e eI ⟨rfl, hb⟩; refine ⟨_, rfl, ?_⟩; have aJ := A_.mk (F_ (g := ah) (o := .cells #[.int .i64 aw, .int .i64 ax, .int .i64 ay, .int .i64 az, .int .i64 aA, .int .i64 aB, .int .i64 ao, .int .i64 aC, .slice (some ad157) aa.length aO, .slice aP av.length aQ, .slice (some ad159) aj.length aF] 28 (0, 0)) (by refine kB ?_; refine J_ ?_ bi.out _; refine kB ?_; refine J_ ?_ bi.out _; refine kB ?_; refine J_ ?_ bi.out _; refine kB ?_; refine J_ ?_ bi.out _; refine kB ?_; exact ad.out) hb); have aK := A_.mk (F_ (g := ak) (o := .cells #[.int .i64 0, .int .i64 0, .int .i64 0, .int .i64 0] 32 (0, 0)) (by refine kB ?_; refine J_ ?_ aW.out _; refine kB ?_; refine J_ ?_ aW.out _; refine kB ?_; refine J_ ?_ aW.out _; refine kB ?_; refine J_ ?_ aW.out _; refine kB ?_; exact ai.out) hb); have aL := A_.mk (F_ (g := ag) (o := .cells #[.int .i64 ((Z_ aa a1).f0), .int .i64 ((Z_ aa a1).f1.f0), .int .i64 ((Z_ aa a1).f1.f1), .int .i64 ((Z_ aa a1).f1.f2), .int .i64 ((Z_ aa a1).f1.f3), .int .i64 ((Z_ aa a1).f2.f0), .int .i64 ((Z_ aa a1).f2.f1), .int .i64 ((Z_ aa a1).f2.f2)] 54 (0, 0)) (by refine kB ?_; refine J_ ?_ bj.out _; refine kB ?_; refine J_ ?_ bj.out _; refine kB ?_; refine J_ ?_ bj.out _; refine kB ?_; refine J_ ?_ bj.out _; refine kB ?_; exact ac.out) hb); have aR := A_.mk (F_ (g := ab) (o := .cells #[.string (rdOf ByteArray.empty aj ((Z_ aa a1).f2.f0)), .int .i64 ao, .int .i64 ((Z_ aa a1).f2.f0), .int .i64 ((Z_ aa a1).f2.f1), .int .i64 ((Z_ aa a1).f2.f2)] 62 (0, 0)) (by refine kB ?_; refine J_ ?_ bk.out _; refine kB ?_; refine J_ ?_ bk.out _; refine kB ?_; refine J_ ?_ bk.out _; refine kB ?_; refine J_ ?_ bk.out _; refine kB ?_; exact al.out) hb); have aS := A_.mk (F_ (g := au) (o := .cells #[.int .i64 bc, .int .i64 bd, .int .i64 bh, .int .i64 bm] 32 (0, 0)) (by refine kB ?_; refine L_ (cs := #[.int .i64 bc, .int .i64 bd, .int .i64 bh, .int .i64 0]) ?_ 3 _ rfl; refine kB ?_; refine L_ (cs := #[.int .i64 bc, .int .i64 bd, .int .i64 0, .int .i64 0]) ?_ 2 _ rfl; refine kB ?_; refine L_ (cs := #[.int .i64 bc, .int .i64 0, .int .i64 0, .int .i64 0]) ?_ 1 _ rfl; refine kB ?_; refine L_ (cs := #[.int .i64 0, .int .i64 0, .int .i64 0, .int .i64 0]) ?_ 0 _ rfl; refine kB ?_; exact aG.out) hb); have bl := A_.mk (E_ (by exact lB HB.out) hb); clear ad; clear ai; clear ac; clear al; clear aG; clear HB; have ad := aJ; have ai := aK; have ac := aL; have al := aR; have aG := aS; have HB := bl; clear aJ aK aL aR aS bl; (try clear hb); (try clear b3); (try clear hk); (try clear hi); have l4 := bg.out; have l5 := bf.out; have jZ : eI.cell? ⟨ak, 0, none⟩ = some (.int .i64 0) := (D_ ai.out 0).trans rfl; have j0 : eI.cell? ⟨ak, 1, none⟩ = some (.int .i64 0) := (D_ ai.out 1).trans rfl; have j1 : eI.cell? ⟨ak, 2, none⟩ = some (.int .i64 0) := (D_ ai.out 2).trans rfl; have j2 : eI.cell? ⟨ak, 3, none⟩ = some (.int .i64 0) := (D_ ai.out 3).trans rfl; have j3 := B_ ai.out 0; have j4 := B_ ai.out 1; have j5 := B_ ai.out 2; have j6 := B_ ai.out 3))
            refine bodyPost_ret (results_ct rfl _ _ ak 32 #[.int .i64 ck, .int .i64 cE, .int .i64 ej, .int .i64 ex] (0, 0) _ rfl (by refine kB ?_; refine L_ (cs := #[.int .i64 ck, .int .i64 cE, .int .i64 ej, .int .i64 0]) ?_ 3 _ rfl; refine kB ?_; refine L_ (cs := #[.int .i64 ck, .int .i64 cE, .int .i64 0, .int .i64 0]) ?_ 2 _ rfl; refine kB ?_; refine L_ (cs := #[.int .i64 ck, .int .i64 0, .int .i64 0, .int .i64 0]) ?_ 1 _ rfl; refine kB ?_; refine L_ (cs := #[.int .i64 0, .int .i64 0, .int .i64 0, .int .i64 0]) ?_ 0 _ rfl; refine kB ?_; exact ai.out) Tryd.underlying32 rfl (by kernel_rfl)) rfl ?_
            exact ⟨by first | rfl | (simp [errW_none, errW_some] <;> rfl) | (simp [*, errW_none, errW_some] <;> rfl), by exact lB HB.out⟩
           ·rw [if_neg c61] at H
            have gX : (bw == 0) = false := beq_eq_false_iff_ne.mpr c61
            have gY : (bw != 0) = true := bne_iff_ne.mpr c61
            replace H := Option.bind_eq_some_iff.mp H
            obtain ⟨⟨ek, el, em, en⟩, A900, H⟩ := H
            replace H : ((sample_mixed.f bc bd bh bm ek el em en bw).bind fun aU => (some (aU.1, aU.2.1, aU.2.2.1, aU.2.2.2, 0))) = some (r1, r2, r3, r4, r5) := H
            have A90 := A_.mk A900
            clear A900
            replace H := Option.bind_eq_some_iff.mp H
            obtain ⟨⟨cl, cI, eo, ey⟩, A910, H⟩ := H
            replace H : (some (cl, cI, eo, ey, 0)) = some (r1, r2, r3, r4, r5) := H
            have A91 := A_.mk A910
            clear A910
            simp only [Option.some.injEq, Prod.mk.injEq] at H
            obtain ⟨rfl, rfl, rfl, rfl, rfl⟩ := H
            try go_wp2
            have aJ := A_.mk (Y_ ad.out)
            have aK := A_.mk (Y_ ai.out)
            have aL := A_.mk (Y_ ac.out)
            have aR := A_.mk (T_ HB.out)
            clear ad
            clear ai
            clear ac
            clear HB
            have ad := aJ
            have ai := aK
            have ac := aL
            have HB := aR
            clear aJ aK aL aR
            have p159 : 0 ≤ (((Z_ aa a1).f2.f0) : Int) := of_decide_eq_true (by first | (with_reducible assumption) | assumption)
            have q159 : ((Z_ aa a1).f2.f0) < (aj.length : Int) := of_decide_eq_true (by first | (with_reducible assumption) | assumption)
            obtain ⟨ad159, e159, bp⟩ := Kd.at_string b2.out ((Z_ aa a1).f2.f0) p159 q159
            have aq := bp
            cases e159
            replace bp := (HB.out.cell (World.block_lt_of_cell? w _ bp)).trans bp
            replace p159 := eq_true p159
            replace q159 := eq_true q159
            refine start_ (n := 15) (S := fun w' => w'.cell? ⟨ah, 0, none⟩ = some (.int .i64 aw) ∧ w'.cell? ⟨ah, 1, none⟩ = some (.int .i64 ax) ∧ w'.cell? ⟨ah, 2, none⟩ = some (.int .i64 ay) ∧ w'.cell? ⟨ah, 3, none⟩ = some (.int .i64 az) ∧ w'.cell? ⟨ah, 4, none⟩ = some (.int .i64 aA) ∧ w'.cell? ⟨ah, 5, none⟩ = some (.int .i64 aB) ∧ w'.cell? ⟨ah, 6, none⟩ = some (.int .i64 ao) ∧ w'.cell? ⟨ah, 7, none⟩ = some (.int .i64 aC) ∧ w'.cell? ⟨ah, 8, none⟩ = some (.slice (some ad157) aa.length aO) ∧ w'.cell? ⟨ah, 9, none⟩ = some (.slice aP av.length aQ) ∧ w'.cell? ⟨ah, 10, none⟩ = some (.slice (some ad159) aj.length aF) ∧ w'.cell? ⟨ag, 0, none⟩ = some (.int .i64 ((Z_ aa a1).f0)) ∧ w'.cell? ⟨ag, 1, none⟩ = some (.int .i64 ((Z_ aa a1).f1.f0)) ∧ w'.cell? ⟨ag, 2, none⟩ = some (.int .i64 ((Z_ aa a1).f1.f1)) ∧ w'.cell? ⟨ag, 3, none⟩ = some (.int .i64 ((Z_ aa a1).f1.f2)) ∧ w'.cell? ⟨ag, 4, none⟩ = some (.int .i64 ((Z_ aa a1).f1.f3)) ∧ w'.cell? ⟨ag, 5, none⟩ = some (.int .i64 ((Z_ aa a1).f2.f0)) ∧ w'.cell? ⟨ag, 6, none⟩ = some (.int .i64 ((Z_ aa a1).f2.f1)) ∧ w'.cell? ⟨ag, 7, none⟩ = some (.int .i64 ((Z_ aa a1).f2.f2)) ∧ w'.cell? (ad159.add (((Z_ aa a1).f2.f0)).toNat) = some (.string (rdOf ByteArray.empty aj ((Z_ aa a1).f2.f0)))) (ds := []) #[false, false, false, false, false, false, false, false, false, false, false, false, false, false, false] (by kernel_rfl) rfl rfl ⟨(D_ ad.out 0).trans rfl, (D_ ad.out 1).trans rfl, (D_ ad.out 2).trans rfl, (D_ ad.out 3).trans rfl, (D_ ad.out 4).trans rfl, (D_ ad.out 5).trans rfl, (D_ ad.out 6).trans rfl, (D_ ad.out 7).trans rfl, (D_ ad.out 8).trans rfl, (D_ ad.out 9).trans rfl, (D_ ad.out 10).trans rfl, (D_ ac.out 0).trans rfl, (D_ ac.out 1).trans rfl, (D_ ac.out 2).trans rfl, (D_ ac.out 3).trans rfl, (D_ ac.out 4).trans rfl, (D_ ac.out 5).trans rfl, (D_ ac.out 6).trans rfl, (D_ ac.out 7).trans rfl, ((HB.out.cell (World.block_lt_of_cell? w _ aq)).trans aq)⟩ (fun hHeld => ?_); refine with_tabW sample_At.tab6 sample_At.bits6 (fun HT_ HW_ => ?_)
            generalize wc.drew = mJ at ad ai ac HB bp hHeld ⊢
            refine pure_ (i := 0) (N := some 68) (v := ?_) (a' := ?_) #[true, false, false, false, false, false, false, false, false, false, false, false, false, false, false] rfl rfl (A1_ HT_.out (by kernel_rfl)) (fun _ _ _ h => h) (Or.inl ⟨by rfl, ?_⟩) ?_ ?_
            rotate_left
            ·intro w'
             go_simp
             with_reducible rfl
            rotate_left
            ·exact pA
            refine pure_ (i := 2) (N := some 70) (v := ?_) (a' := ?_) #[true, false, true, false, false, false, false, false, false, false, false, false, false, false, false] rfl rfl (A1_ HT_.out (by kernel_rfl)) (fun _ _ _ h => h) (Or.inl ⟨by rfl, ?_⟩) ?_ ?_
            rotate_left
            ·intro w'
             go_simp
             with_reducible rfl
            rotate_left
            ·exact pA
            refine pure_ (i := 3) (N := some 71) (v := ?_) (a' := ?_) #[true, false, true, true, false, false, false, false, false, false, false, false, false, false, false] rfl rfl (A1_ HT_.out (by kernel_rfl)) (fun _ _ _ h => h) (Or.inl ⟨by rfl, ?_⟩) ?_ ?_
            rotate_left
            ·intro w'
             go_simp
             with_reducible rfl
            rotate_left
            ·exact pA
            refine pure_ (i := 7) (N := some 75) (v := ?_) (a' := ?_) #[true, false, true, true, false, false, false, true, false, false, false, false, false, false, false] rfl rfl (A1_ HT_.out (by kernel_rfl)) (fun _ _ _ h => h) (Or.inl ⟨by rfl, ?_⟩) ?_ ?_
            rotate_left
            ·intro w'
             go_simp
             with_reducible rfl
            rotate_left
            ·exact pA
            refine pure_ (i := 8) (N := some 76) (v := ?_) (a' := ?_) #[true, false, true, true, false, false, false, true, true, false, false, false, false, false, false] rfl rfl (A1_ HT_.out (by kernel_rfl)) (fun _ _ _ h => h) (Or.inl ⟨by rfl, ?_⟩) ?_ ?_
            rotate_left
            ·intro w'
             go_simp
             with_reducible rfl
            rotate_left
            ·exact pA
            refine pure_ (i := 10) (N := some 78) (v := ?_) (a' := ?_) #[true, false, true, true, false, false, false, true, true, false, true, false, false, false, false] rfl rfl (A1_ HT_.out (by kernel_rfl)) (fun _ _ _ h => h) (Or.inl ⟨by rfl, ?_⟩) ?_ ?_
            rotate_left
            ·intro w'
             go_simp
             with_reducible rfl
            rotate_left
            ·exact pA
            refine take_ (i := 1) (N := some 69) (v := ?_) (a' := ?_) #[true, true, true, true, false, false, false, true, true, false, true, false, false, false, false] rfl rfl (B1_ HT_.out HW_.out (by kernel_rfl)) (fun _ _ _ h => h) (Or.inl ⟨by rfl, ?_⟩) hHeld ?_ ?_
            rotate_left
            ·rintro w' ⟨s0, s1, s2, s3, s4, s5, s6, s7, s8, s9, s10, s11, s12, s13, s14, s15, s16, s17, s18, s19⟩
             go_simp
             with_reducible rfl
            rotate_left
            ·exact pA
            refine take_ (i := 4) (N := some 72) (v := ?_) (a' := ?_) #[true, true, true, true, true, false, false, true, true, false, true, false, false, false, false] rfl rfl (B1_ HT_.out HW_.out (by kernel_rfl)) (fun _ _ _ h => h) (Or.inl ⟨by rfl, ?_⟩) hHeld ?_ ?_
            rotate_left
            ·rintro w' ⟨s0, s1, s2, s3, s4, s5, s6, s7, s8, s9, s10, s11, s12, s13, s14, s15, s16, s17, s18, s19⟩
             go_simp
             with_reducible rfl
            rotate_left
            ·exact pA
            refine pure_ (i := 5) (N := some 73) (v := ?_) (a' := ?_) #[true, true, true, true, true, true, false, true, true, false, true, false, false, false, false] rfl rfl (A1_ HT_.out (by kernel_rfl)) (fun _ _ _ h => h) (Or.inl ⟨by rfl, ?_⟩) ?_ ?_
            rotate_left
            ·intro w'
             go_simp
             with_reducible rfl
            rotate_left
            ·exact pA
            refine take_ (i := 6) (N := some 74) (v := ?_) (a' := ?_) #[true, true, true, true, true, true, true, true, true, false, true, false, false, false, false] rfl rfl (B1_ HT_.out HW_.out (by kernel_rfl)) (fun _ _ _ h => h) (Or.inl ⟨by rfl, ?_⟩) hHeld ?_ ?_
            rotate_left
            ·rintro w' ⟨s0, s1, s2, s3, s4, s5, s6, s7, s8, s9, s10, s11, s12, s13, s14, s15, s16, s17, s18, s19⟩
             go_simp
             with_reducible rfl
            rotate_left
            ·exact pA
            refine take_ (i := 9) (N := some 77) (v := ?_) (a' := ?_) #[true, true, true, true, true, true, true, true, true, true, true, false, false, false, false] rfl rfl (B1_ HT_.out HW_.out (by kernel_rfl)) (fun _ _ _ h => h) (Or.inl ⟨by rfl, ?_⟩) hHeld ?_ ?_
            rotate_left
            ·rintro w' ⟨s0, s1, s2, s3, s4, s5, s6, s7, s8, s9, s10, s11, s12, s13, s14, s15, s16, s17, s18, s19⟩
             go_simp
             with_reducible rfl
            rotate_left
            ·exact pA
            refine take_ (i := 11) (N := some 79) (v := ?_) (a' := ?_) #[true, true, true, true, true, true, true, true, true, true, true, true, false, false, false] rfl rfl (B1_ HT_.out HW_.out (by kernel_rfl)) (fun _ _ _ h => h) (Or.inl ⟨by rfl, ?_⟩) hHeld ?_ ?_
            rotate_left
            ·rintro w' ⟨s0, s1, s2, s3, s4, s5, s6, s7, s8, s9, s10, s11, s12, s13, s14, s15, s16, s17, s18, s19⟩
             go_simp
             with_reducible rfl
            rotate_left
            ·exact pA
            refine pure_ (i := 12) (N := some 80) (v := ?_) (a' := ?_) #[true, true, true, true, true, true, true, true, true, true, true, true, true, false, false] rfl rfl (A1_ HT_.out (by kernel_rfl)) (fun _ _ _ h => h) (Or.inl ⟨by rfl, ?_⟩) ?_ ?_
            rotate_left
            ·intro w'
             go_simp
             with_reducible rfl
            rotate_left
            ·exact pA
            refine one_ (i := 13) (N := some 11) #[true, true, true, true, true, true, true, true, true, true, true, true, true, true, false] rfl rfl (one_of HT_.out (by kernel_rfl)) (by decide) (fun K hK => ?_)
            refine box_step ?hg (N := 11) ?hd (cs := #[.string (⟨#[]⟩ : ByteArray), .int .i64 0, .int .i64 0, .int .i64 0, .int .i64 0]) (t := 62) ?hr ?_; (case hd => rfl); (case hg => rfl); (case hr => first | (go_simp; done) | (go_simp; rfl))
            intro ab hg bU hbox hb
            have aJ := A_.mk (F_ (g := ah) (o := .cells #[.int .i64 aw, .int .i64 ax, .int .i64 ay, .int .i64 az, .int .i64 aA, .int .i64 aB, .int .i64 ao, .int .i64 aC, .slice (some ad157) aa.length aO, .slice aP av.length aQ, .slice (some ad159) aj.length aF] 28 (0, 0)) (by refine kB ?_; exact ad.out) hb)
            have aK := A_.mk (F_ (g := ak) (o := .cells #[.int .i64 0, .int .i64 0, .int .i64 0, .int .i64 0] 32 (0, 0)) (by refine kB ?_; exact ai.out) hb)
            have aL := A_.mk (F_ (g := ag) (o := .cells #[.int .i64 ((Z_ aa a1).f0), .int .i64 ((Z_ aa a1).f1.f0), .int .i64 ((Z_ aa a1).f1.f1), .int .i64 ((Z_ aa a1).f1.f2), .int .i64 ((Z_ aa a1).f1.f3), .int .i64 ((Z_ aa a1).f2.f0), .int .i64 ((Z_ aa a1).f2.f1), .int .i64 ((Z_ aa a1).f2.f2)] 54 (0, 0)) (by refine kB ?_; exact ac.out) hb)
            have aR := A_.mk (E_ (by exact lB HB.out) hb)
            have aS := A_.mk (hbox)
            have bl := A_.mk ((by rw [hg]; exact (G_ (by exact lB HB.out)) : w.heap.size ≤ ab))
            have bA := A_.mk ((by rw [hg]; exact (G_ (by exact lB HB.out)) : w.heap.size ≤ ab))
            have bQ := A_.mk ((by rw [hg]; exact Nat.ne_of_lt (M_ (g := ah) (o := .cells #[.int .i64 aw, .int .i64 ax, .int .i64 ay, .int .i64 az, .int .i64 aA, .int .i64 aB, .int .i64 ao, .int .i64 aC, .slice (some ad157) aa.length aO, .slice aP av.length aQ, .slice (some ad159) aj.length aF] 28 (0, 0)) (by refine kB ?_; exact ad.out)) : ah ≠ ab))
            have bR := A_.mk ((by rw [hg]; exact Nat.ne_of_gt (M_ (g := ah) (o := .cells #[.int .i64 aw, .int .i64 ax, .int .i64 ay, .int .i64 az, .int .i64 aA, .int .i64 aB, .int .i64 ao, .int .i64 aC, .slice (some ad157) aa.length aO, .slice aP av.length aQ, .slice (some ad159) aj.length aF] 28 (0, 0)) (by refine kB ?_; exact ad.out)) : ab ≠ ah))
            have bS := A_.mk ((by rw [hg]; exact Nat.ne_of_lt (M_ (g := ak) (o := .cells #[.int .i64 0, .int .i64 0, .int .i64 0, .int .i64 0] 32 (0, 0)) (by refine kB ?_; exact ai.out)) : ak ≠ ab))
            have bM := A_.mk ((by rw [hg]; exact Nat.ne_of_gt (M_ (g := ak) (o := .cells #[.int .i64 0, .int .i64 0, .int .i64 0, .int .i64 0] 32 (0, 0)) (by refine kB ?_; exact ai.out)) : ab ≠ ak))
            have bN := A_.mk ((by rw [hg]; exact Nat.ne_of_lt (M_ (g := ag) (o := .cells #[.int .i64 ((Z_ aa a1).f0), .int .i64 ((Z_ aa a1).f1.f0), .int .i64 ((Z_ aa a1).f1.f1), .int .i64 ((Z_ aa a1).f1.f2), .int .i64 ((Z_ aa a1).f1.f3), .int .i64 ((Z_ aa a1).f2.f0), .int .i64 ((Z_ aa a1).f2.f1), .int .i64 ((Z_ aa a1).f2.f2)] 54 (0, 0)) (by refine kB ?_; exact ac.out)) : ag ≠ ab))
            have bO := A_.mk ((by rw [hg]; exact Nat.ne_of_gt (M_ (g := ag) (o := .cells #[.int .i64 ((Z_ aa a1).f0), .int .i64 ((Z_ aa a1).f1.f0), .int .i64 ((Z_ aa a1).f1.f1), .int .i64 ((Z_ aa a1).f1.f2), .int .i64 ((Z_ aa a1).f1.f3), .int .i64 ((Z_ aa a1).f2.f0), .int .i64 ((Z_ aa a1).f2.f1), .int .i64 ((Z_ aa a1).f2.f2)] 54 (0, 0)) (by refine kB ?_; exact ac.out)) : ab ≠ ag))
            clear ad
            clear ai
            clear ac
            clear HB
            have ad := aJ
            have ai := aK
            have ac := aL
            have HB := aR
            have al := aS
            have aM := bl
            have bn := bA
            have ae := bQ
            have aY := bR
            have aE := bS
            have ar := bM
            have af := bN
            have aZ := bO
            clear aJ aK aL aR aS bl bA bQ bR bS bM bN bO
            clear hb hbox hg
            refine hK.out _ _ ⟨(D_ ad.out 0).trans rfl, (D_ ad.out 1).trans rfl, (D_ ad.out 2).trans rfl, (D_ ad.out 3).trans rfl, (D_ ad.out 4).trans rfl, (D_ ad.out 5).trans rfl, (D_ ad.out 6).trans rfl, (D_ ad.out 7).trans rfl, (D_ ad.out 8).trans rfl, (D_ ad.out 9).trans rfl, (D_ ad.out 10).trans rfl, (D_ ac.out 0).trans rfl, (D_ ac.out 1).trans rfl, (D_ ac.out 2).trans rfl, (D_ ac.out 3).trans rfl, (D_ ac.out 4).trans rfl, (D_ ac.out 5).trans rfl, (D_ ac.out 6).trans rfl, (D_ ac.out 7).trans rfl, ((HB.out.cell (World.block_lt_of_cell? w _ aq)).trans aq)⟩ (fun hHeld => ?_)
            clear hK K
            refine norm_ (a' := ?_) ?_ ?_
            rotate_left
            ·show Act.put _ (some 11) _ = _
             exact pA
            refine one_ (i := 14) (N := none) #[true, true, true, true, true, true, true, true, true, true, true, true, true, true, true] rfl rfl (one_of HT_.out (by kernel_rfl)) (by decide) (fun K hK => ?_)
            have mv : bU.cell? ⟨ab, 0, none⟩ = some (.string (⟨#[]⟩ : ByteArray)) := (D_ al.out 0).trans rfl
            have l6 := B_ al.out 0
            have j7 := ae.out
            have j8 := aE.out
            have j9 := af.out
            have ka := aY.out
            have kb := ar.out
            have kc := aZ.out
            have mw : bU.cell? ⟨ab, 1, none⟩ = some (.int .i64 0) := (D_ al.out 1).trans rfl
            have l7 := B_ al.out 1
            have kd := ae.out
            have ke := aE.out
            have kf := af.out
            have kg := aY.out
            have kh := ar.out
            have ki := aZ.out
            have my : bU.cell? ⟨ab, 2, none⟩ = some (.int .i64 0) := (D_ al.out 2).trans rfl
            have l8 := B_ al.out 2
            have kj := ae.out
            have kk := aE.out
            have kl := af.out
            have km := aY.out
            have kn := ar.out
            have ko := aZ.out
            have mz : bU.cell? ⟨ab, 3, none⟩ = some (.int .i64 0) := (D_ al.out 3).trans rfl
            have l9 := B_ al.out 3
            have kp := ae.out
            have kr := aE.out
            have ks := af.out
            have kt := aY.out
            have ku := ar.out
            have kv := aZ.out
            have mA : bU.cell? ⟨ab, 4, none⟩ = some (.int .i64 0) := (D_ al.out 4).trans rfl
            have ma := B_ al.out 4
            have kw := ae.out
            have kx := aE.out
            have ky := af.out
            have kz := aY.out
            have kA := ar.out
            have kC := aZ.out
            refine skip_ (w1 := ?_) (by rfl) rfl ?_ ?_
            rotate_left
            ·go_simp
             rfl
            refine hK.out _ _ ⟨((I_ (p := ⟨ab, _, none⟩) ae.out _).trans (((I_ (p := ⟨ab, _, none⟩) ae.out _).trans (((I_ (p := ⟨ab, _, none⟩) ae.out _).trans (((I_ (p := ⟨ab, _, none⟩) ae.out _).trans (((I_ (p := ⟨ab, _, none⟩) ae.out _).trans (hHeld.1)))))))))), ((I_ (p := ⟨ab, _, none⟩) ae.out _).trans (((I_ (p := ⟨ab, _, none⟩) ae.out _).trans (((I_ (p := ⟨ab, _, none⟩) ae.out _).trans (((I_ (p := ⟨ab, _, none⟩) ae.out _).trans (((I_ (p := ⟨ab, _, none⟩) ae.out _).trans (hHeld.2.1)))))))))), ((I_ (p := ⟨ab, _, none⟩) ae.out _).trans (((I_ (p := ⟨ab, _, none⟩) ae.out _).trans (((I_ (p := ⟨ab, _, none⟩) ae.out _).trans (((I_ (p := ⟨ab, _, none⟩) ae.out _).trans (((I_ (p := ⟨ab, _, none⟩) ae.out _).trans (hHeld.2.2.1)))))))))), ((I_ (p := ⟨ab, _, none⟩) ae.out _).trans (((I_ (p := ⟨ab, _, none⟩) ae.out _).trans (((I_ (p := ⟨ab, _, none⟩) ae.out _).trans (((I_ (p := ⟨ab, _, none⟩) ae.out _).trans (((I_ (p := ⟨ab, _, none⟩) ae.out _).trans (hHeld.2.2.2.1)))))))))), ((I_ (p := ⟨ab, _, none⟩) ae.out _).trans (((I_ (p := ⟨ab, _, none⟩) ae.out _).trans (((I_ (p := ⟨ab, _, none⟩) ae.out _).trans (((I_ (p := ⟨ab, _, none⟩) ae.out _).trans (((I_ (p := ⟨ab, _, none⟩) ae.out _).trans (hHeld.2.2.2.2.1)))))))))), ((I_ (p := ⟨ab, _, none⟩) ae.out _).trans (((I_ (p := ⟨ab, _, none⟩) ae.out _).trans (((I_ (p := ⟨ab, _, none⟩) ae.out _).trans (((I_ (p := ⟨ab, _, none⟩) ae.out _).trans (((I_ (p := ⟨ab, _, none⟩) ae.out _).trans (hHeld.2.2.2.2.2.1)))))))))), ((I_ (p := ⟨ab, _, none⟩) ae.out _).trans (((I_ (p := ⟨ab, _, none⟩) ae.out _).trans (((I_ (p := ⟨ab, _, none⟩) ae.out _).trans (((I_ (p := ⟨ab, _, none⟩) ae.out _).trans (((I_ (p := ⟨ab, _, none⟩) ae.out _).trans (hHeld.2.2.2.2.2.2.1)))))))))), ((I_ (p := ⟨ab, _, none⟩) ae.out _).trans (((I_ (p := ⟨ab, _, none⟩) ae.out _).trans (((I_ (p := ⟨ab, _, none⟩) ae.out _).trans (((I_ (p := ⟨ab, _, none⟩) ae.out _).trans (((I_ (p := ⟨ab, _, none⟩) ae.out _).trans (hHeld.2.2.2.2.2.2.2.1)))))))))), ((I_ (p := ⟨ab, _, none⟩) ae.out _).trans (((I_ (p := ⟨ab, _, none⟩) ae.out _).trans (((I_ (p := ⟨ab, _, none⟩) ae.out _).trans (((I_ (p := ⟨ab, _, none⟩) ae.out _).trans (((I_ (p := ⟨ab, _, none⟩) ae.out _).trans (hHeld.2.2.2.2.2.2.2.2.1)))))))))), ((I_ (p := ⟨ab, _, none⟩) ae.out _).trans (((I_ (p := ⟨ab, _, none⟩) ae.out _).trans (((I_ (p := ⟨ab, _, none⟩) ae.out _).trans (((I_ (p := ⟨ab, _, none⟩) ae.out _).trans (((I_ (p := ⟨ab, _, none⟩) ae.out _).trans (hHeld.2.2.2.2.2.2.2.2.2.1)))))))))), ((I_ (p := ⟨ab, _, none⟩) ae.out _).trans (((I_ (p := ⟨ab, _, none⟩) ae.out _).trans (((I_ (p := ⟨ab, _, none⟩) ae.out _).trans (((I_ (p := ⟨ab, _, none⟩) ae.out _).trans (((I_ (p := ⟨ab, _, none⟩) ae.out _).trans (hHeld.2.2.2.2.2.2.2.2.2.2.1)))))))))), ((I_ (p := ⟨ab, _, none⟩) af.out _).trans (((I_ (p := ⟨ab, _, none⟩) af.out _).trans (((I_ (p := ⟨ab, _, none⟩) af.out _).trans (((I_ (p := ⟨ab, _, none⟩) af.out _).trans (((I_ (p := ⟨ab, _, none⟩) af.out _).trans (hHeld.2.2.2.2.2.2.2.2.2.2.2.1)))))))))), ((I_ (p := ⟨ab, _, none⟩) af.out _).trans (((I_ (p := ⟨ab, _, none⟩) af.out _).trans (((I_ (p := ⟨ab, _, none⟩) af.out _).trans (((I_ (p := ⟨ab, _, none⟩) af.out _).trans (((I_ (p := ⟨ab, _, none⟩) af.out _).trans (hHeld.2.2.2.2.2.2.2.2.2.2.2.2.1)))))))))), ((I_ (p := ⟨ab, _, none⟩) af.out _).trans (((I_ (p := ⟨ab, _, none⟩) af.out _).trans (((I_ (p := ⟨ab, _, none⟩) af.out _).trans (((I_ (p := ⟨ab, _, none⟩) af.out _).trans (((I_ (p := ⟨ab, _, none⟩) af.out _).trans (hHeld.2.2.2.2.2.2.2.2.2.2.2.2.2.1)))))))))), ((I_ (p := ⟨ab, _, none⟩) af.out _).trans (((I_ (p := ⟨ab, _, none⟩) af.out _).trans (((I_ (p := ⟨ab, _, none⟩) af.out _).trans (((I_ (p := ⟨ab, _, none⟩) af.out _).trans (((I_ (p := ⟨ab, _, none⟩) af.out _).trans (hHeld.2.2.2.2.2.2.2.2.2.2.2.2.2.2.1)))))))))), ((I_ (p := ⟨ab, _, none⟩) af.out _).trans (((I_ (p := ⟨ab, _, none⟩) af.out _).trans (((I_ (p := ⟨ab, _, none⟩) af.out _).trans (((I_ (p := ⟨ab, _, none⟩) af.out _).trans (((I_ (p := ⟨ab, _, none⟩) af.out _).trans (hHeld.2.2.2.2.2.2.2.2.2.2.2.2.2.2.2.1)))))))))), ((I_ (p := ⟨ab, _, none⟩) af.out _).trans (((I_ (p := ⟨ab, _, none⟩) af.out _).trans (((I_ (p := ⟨ab, _, none⟩) af.out _).trans (((I_ (p := ⟨ab, _, none⟩) af.out _).trans (((I_ (p := ⟨ab, _, none⟩) af.out _).trans (hHeld.2.2.2.2.2.2.2.2.2.2.2.2.2.2.2.2.1)))))))))), ((I_ (p := ⟨ab, _, none⟩) af.out _).trans (((I_ (p := ⟨ab, _, none⟩) af.out _).trans (((I_ (p := ⟨ab, _, none⟩) af.out _).trans (((I_ (p := ⟨ab, _, none⟩) af.out _).trans (((I_ (p := ⟨ab, _, none⟩) af.out _).trans (hHeld.2.2.2.2.2.2.2.2.2.2.2.2.2.2.2.2.2.1)))))))))), ((I_ (p := ⟨ab, _, none⟩) af.out _).trans (((I_ (p := ⟨ab, _, none⟩) af.out _).trans (((I_ (p := ⟨ab, _, none⟩) af.out _).trans (((I_ (p := ⟨ab, _, none⟩) af.out _).trans (((I_ (p := ⟨ab, _, none⟩) af.out _).trans (hHeld.2.2.2.2.2.2.2.2.2.2.2.2.2.2.2.2.2.2.1)))))))))), ((I_ (p := ⟨ab, _, none⟩) (by first | exact Nat.ne_of_lt (Nat.lt_of_lt_of_le (by have := World.block_lt_of_cell? _ _ aq; first | rwa [add_block] at this | exact this) aM.out) | (rw [add_block]; exact Nat.ne_of_lt (Nat.lt_of_lt_of_le (by have := World.block_lt_of_cell? _ _ aq; first | rwa [add_block] at this | exact this) aM.out)) | (show (Addr.add _ _).block ≠ _; rw [add_block]; exact Nat.ne_of_lt (Nat.lt_of_lt_of_le (by have := World.block_lt_of_cell? _ _ aq; first | rwa [add_block] at this | exact this) aM.out)) | (dsimp only; exact Nat.ne_of_lt (Nat.lt_of_lt_of_le (by have := World.block_lt_of_cell? _ _ aq; first | rwa [add_block] at this | exact this) aM.out))) _).trans (((I_ (p := ⟨ab, _, none⟩) (by first | exact Nat.ne_of_lt (Nat.lt_of_lt_of_le (by have := World.block_lt_of_cell? _ _ aq; first | rwa [add_block] at this | exact this) aM.out) | (rw [add_block]; exact Nat.ne_of_lt (Nat.lt_of_lt_of_le (by have := World.block_lt_of_cell? _ _ aq; first | rwa [add_block] at this | exact this) aM.out)) | (show (Addr.add _ _).block ≠ _; rw [add_block]; exact Nat.ne_of_lt (Nat.lt_of_lt_of_le (by have := World.block_lt_of_cell? _ _ aq; first | rwa [add_block] at this | exact this) aM.out)) | (dsimp only; exact Nat.ne_of_lt (Nat.lt_of_lt_of_le (by have := World.block_lt_of_cell? _ _ aq; first | rwa [add_block] at this | exact this) aM.out))) _).trans (((I_ (p := ⟨ab, _, none⟩) (by first | exact Nat.ne_of_lt (Nat.lt_of_lt_of_le (by have := World.block_lt_of_cell? _ _ aq; first | rwa [add_block] at this | exact this) aM.out) | (rw [add_block]; exact Nat.ne_of_lt (Nat.lt_of_lt_of_le (by have := World.block_lt_of_cell? _ _ aq; first | rwa [add_block] at this | exact this) aM.out)) | (show (Addr.add _ _).block ≠ _; rw [add_block]; exact Nat.ne_of_lt (Nat.lt_of_lt_of_le (by have := World.block_lt_of_cell? _ _ aq; first | rwa [add_block] at this | exact this) aM.out)) | (dsimp only; exact Nat.ne_of_lt (Nat.lt_of_lt_of_le (by have := World.block_lt_of_cell? _ _ aq; first | rwa [add_block] at this | exact this) aM.out))) _).trans (((I_ (p := ⟨ab, _, none⟩) (by first | exact Nat.ne_of_lt (Nat.lt_of_lt_of_le (by have := World.block_lt_of_cell? _ _ aq; first | rwa [add_block] at this | exact this) aM.out) | (rw [add_block]; exact Nat.ne_of_lt (Nat.lt_of_lt_of_le (by have := World.block_lt_of_cell? _ _ aq; first | rwa [add_block] at this | exact this) aM.out)) | (show (Addr.add _ _).block ≠ _; rw [add_block]; exact Nat.ne_of_lt (Nat.lt_of_lt_of_le (by have := World.block_lt_of_cell? _ _ aq; first | rwa [add_block] at this | exact this) aM.out)) | (dsimp only; exact Nat.ne_of_lt (Nat.lt_of_lt_of_le (by have := World.block_lt_of_cell? _ _ aq; first | rwa [add_block] at this | exact this) aM.out))) _).trans (((I_ (p := ⟨ab, _, none⟩) (by first | exact Nat.ne_of_lt (Nat.lt_of_lt_of_le (by have := World.block_lt_of_cell? _ _ aq; first | rwa [add_block] at this | exact this) aM.out) | (rw [add_block]; exact Nat.ne_of_lt (Nat.lt_of_lt_of_le (by have := World.block_lt_of_cell? _ _ aq; first | rwa [add_block] at this | exact this) aM.out)) | (show (Addr.add _ _).block ≠ _; rw [add_block]; exact Nat.ne_of_lt (Nat.lt_of_lt_of_le (by have := World.block_lt_of_cell? _ _ aq; first | rwa [add_block] at this | exact this) aM.out)) | (dsimp only; exact Nat.ne_of_lt (Nat.lt_of_lt_of_le (by have := World.block_lt_of_cell? _ _ aq; first | rwa [add_block] at this | exact this) aM.out))) _).trans (hHeld.2.2.2.2.2.2.2.2.2.2.2.2.2.2.2.2.2.2.2))))))))))⟩ (fun hHeld => ?_)
            clear hK K
            refine done_ (done_of HT_.out (by kernel_rfl)) ?_
            have mb := bq.out
            have mc := an.out
            have kF := aX.out
            have kG := am.out
            have kH := af.out
            have kI := aZ.out
            have g0 : bU.cell? ⟨ag, 0, none⟩ = some (.int .i64 ((Z_ aa a1).f0)) := (D_ ac.out 0).trans rfl
            have g1 : bU.cell? ⟨ag, 1, none⟩ = some (.int .i64 ((Z_ aa a1).f1.f0)) := (D_ ac.out 1).trans rfl
            have g2 : bU.cell? ⟨ag, 2, none⟩ = some (.int .i64 ((Z_ aa a1).f1.f1)) := (D_ ac.out 2).trans rfl
            have g3 : bU.cell? ⟨ag, 3, none⟩ = some (.int .i64 ((Z_ aa a1).f1.f2)) := (D_ ac.out 3).trans rfl
            have g4 : bU.cell? ⟨ag, 4, none⟩ = some (.int .i64 ((Z_ aa a1).f1.f3)) := (D_ ac.out 4).trans rfl
            have g5 : bU.cell? ⟨ag, 5, none⟩ = some (.int .i64 ((Z_ aa a1).f2.f0)) := (D_ ac.out 5).trans rfl
            have g6 : bU.cell? ⟨ag, 6, none⟩ = some (.int .i64 ((Z_ aa a1).f2.f1)) := (D_ ac.out 6).trans rfl
            have g7 : bU.cell? ⟨ag, 7, none⟩ = some (.int .i64 ((Z_ aa a1).f2.f2)) := (D_ ac.out 7).trans rfl
            have g8 := B_ ac.out 0
            have g9 := B_ ac.out 1
            have ha := B_ ac.out 2
            have hc := B_ ac.out 3
            have he := B_ ac.out 4
            have hf := B_ ac.out 5
            have hh := B_ ac.out 6
            have hj := B_ ac.out 7
            try go_wp2_with (first | ((with_reducible refine P_ (f := 17) rfl ?_); refine R_ (some 86) rfl rfl Tryd.func17 (by kernel_rfl) rfl #[.int .i64 a2, .int .i64 ((Z_ aa a1).f1.f2)] rfl (by (try simp only [List.map_toArray, List.map_cons, List.map_nil]); first | done | rfl | (simp only [List.length_drop, List.length_take]; rfl)) ?_; (with_reducible refine (sample_part.calls a2 ((Z_ aa a1).f1.f2) bx bz _ A58.out).mono ?_); rintro e b8 ⟨rfl, hb⟩; refine ⟨_, rfl, ?_⟩; have aJ := A_.mk (F_ (g := ah) (o := .cells #[.int .i64 aw, .int .i64 ax, .int .i64 ay, .int .i64 az, .int .i64 aA, .int .i64 aB, .int .i64 ao, .int .i64 aC, .slice (some ad157) aa.length aO, .slice aP av.length aQ, .slice (some ad159) aj.length aF] 28 (0, 0)) (by refine kB ?_; refine J_ ?_ ae.out _; refine kB ?_; refine J_ ?_ ae.out _; refine kB ?_; refine J_ ?_ ae.out _; refine kB ?_; refine J_ ?_ ae.out _; refine kB ?_; refine J_ ?_ ae.out _; refine kB ?_; exact ad.out) hb); have aK := A_.mk (F_ (g := ak) (o := .cells #[.int .i64 0, .int .i64 0, .int .i64 0, .int .i64 0] 32 (0, 0)) (by refine kB ?_; refine J_ ?_ aE.out _; refine kB ?_; refine J_ ?_ aE.out _; refine kB ?_; refine J_ ?_ aE.out _; refine kB ?_; refine J_ ?_ aE.out _; refine kB ?_; refine J_ ?_ aE.out _; refine kB ?_; exact ai.out) hb); have aL := A_.mk (F_ (g := ag) (o := .cells #[.int .i64 ((Z_ aa a1).f0), .int .i64 ((Z_ aa a1).f1.f0), .int .i64 ((Z_ aa a1).f1.f1), .int .i64 ((Z_ aa a1).f1.f2), .int .i64 ((Z_ aa a1).f1.f3), .int .i64 ((Z_ aa a1).f2.f0), .int .i64 ((Z_ aa a1).f2.f1), .int .i64 ((Z_ aa a1).f2.f2)] 54 (0, 0)) (by refine kB ?_; refine J_ ?_ af.out _; refine kB ?_; refine J_ ?_ af.out _; refine kB ?_; refine J_ ?_ af.out _; refine kB ?_; refine J_ ?_ af.out _; refine kB ?_; refine J_ ?_ af.out _; refine kB ?_; exact ac.out) hb); have aR := A_.mk (F_ (g := ab) (o := .cells #[.string (rdOf ByteArray.empty aj ((Z_ aa a1).f2.f0)), .int .i64 ao, .int .i64 ((Z_ aa a1).f2.f0), .int .i64 ((Z_ aa a1).f2.f1), .int .i64 ((Z_ aa a1).f2.f2)] 62 (0, 0)) (by refine kB ?_; refine L_ (cs := #[.string (rdOf ByteArray.empty aj ((Z_ aa a1).f2.f0)), .int .i64 ao, .int .i64 ((Z_ aa a1).f2.f0), .int .i64 ((Z_ aa a1).f2.f1), .int .i64 0]) ?_ 4 _ rfl; refine kB ?_; refine L_ (cs := #[.string (rdOf ByteArray.empty aj ((Z_ aa a1).f2.f0)), .int .i64 ao, .int .i64 ((Z_ aa a1).f2.f0), .int .i64 0, .int .i64 0]) ?_ 3 _ rfl; refine kB ?_; refine L_ (cs := #[.string (rdOf ByteArray.empty aj ((Z_ aa a1).f2.f0)), .int .i64 ao, .int .i64 0, .int .i64 0, .int .i64 0]) ?_ 2 _ rfl; refine kB ?_; refine L_ (cs := #[.string (rdOf ByteArray.empty aj ((Z_ aa a1).f2.f0)), .int .i64 0, .int .i64 0, .int .i64 0, .int .i64 0]) ?_ 1 _ rfl; refine kB ?_; refine L_ (cs := #[.string (⟨#[]⟩ : ByteArray), .int .i64 0, .int .i64 0, .int .i64 0, .int .i64 0]) ?_ 0 _ rfl; refine kB ?_; exact al.out) hb); have aS := A_.mk (E_ (by exact lB HB.out) hb); clear ad; clear ai; clear ac; clear al; clear HB; have ad := aJ; have ai := aK; have ac := aL; have al := aR; have HB := aS; clear aJ aK aL aR aS; (try clear hb); (try clear b3); (try clear hk); (try clear hi); have hl : b8.cell? ⟨ag, 0, none⟩ = some (.int .i64 ((Z_ aa a1).f0)) := (D_ ac.out 0).trans rfl; have hm : b8.cell? ⟨ag, 1, none⟩ = some (.int .i64 ((Z_ aa a1).f1.f0)) := (D_ ac.out 1).trans rfl; have hn : b8.cell? ⟨ag, 2, none⟩ = some (.int .i64 ((Z_ aa a1).f1.f1)) := (D_ ac.out 2).trans rfl; have ho : b8.cell? ⟨ag, 3, none⟩ = some (.int .i64 ((Z_ aa a1).f1.f2)) := (D_ ac.out 3).trans rfl; have hq : b8.cell? ⟨ag, 4, none⟩ = some (.int .i64 ((Z_ aa a1).f1.f3)) := (D_ ac.out 4).trans rfl; have hs : b8.cell? ⟨ag, 5, none⟩ = some (.int .i64 ((Z_ aa a1).f2.f0)) := (D_ ac.out 5).trans rfl; have ht : b8.cell? ⟨ag, 6, none⟩ = some (.int .i64 ((Z_ aa a1).f2.f1)) := (D_ ac.out 6).trans rfl; have hu : b8.cell? ⟨ag, 7, none⟩ = some (.int .i64 ((Z_ aa a1).f2.f2)) := (D_ ac.out 7).trans rfl; have hv := B_ ac.out 0; have hw := B_ ac.out 1; have hx := B_ ac.out 2; have hy := B_ ac.out 3; have hz := B_ ac.out 4; have hA := B_ ac.out 5; have hB := B_ ac.out 6; have hC := B_ ac.out 7) | ((with_reducible refine P_ (f := 17) rfl ?_); refine R_ (some 94) rfl rfl Tryd.func17 (by kernel_rfl) rfl #[.int .i64 a3, .int .i64 ((Z_ aa a1).f1.f3)] rfl (by (try simp only [List.map_toArray, List.map_cons, List.map_nil]); first | done | rfl | (simp only [List.length_drop, List.length_take]; rfl)) ?_; (with_reducible refine (sample_part.calls a3 ((Z_ aa a1).f1.f3) bL bw _ A59.out).mono ?_); rintro e cJ ⟨rfl, hb⟩; refine ⟨_, rfl, ?_⟩; have aJ := A_.mk (F_ (g := ah) (o := .cells #[.int .i64 aw, .int .i64 ax, .int .i64 ay, .int .i64 az, .int .i64 aA, .int .i64 aB, .int .i64 ao, .int .i64 aC, .slice (some ad157) aa.length aO, .slice aP av.length aQ, .slice (some ad159) aj.length aF] 28 (0, 0)) (by refine kB ?_; exact ad.out) hb); have aK := A_.mk (F_ (g := ak) (o := .cells #[.int .i64 0, .int .i64 0, .int .i64 0, .int .i64 0] 32 (0, 0)) (by refine kB ?_; exact ai.out) hb); have aL := A_.mk (F_ (g := ag) (o := .cells #[.int .i64 ((Z_ aa a1).f0), .int .i64 ((Z_ aa a1).f1.f0), .int .i64 ((Z_ aa a1).f1.f1), .int .i64 ((Z_ aa a1).f1.f2), .int .i64 ((Z_ aa a1).f1.f3), .int .i64 ((Z_ aa a1).f2.f0), .int .i64 ((Z_ aa a1).f2.f1), .int .i64 ((Z_ aa a1).f2.f2)] 54 (0, 0)) (by refine kB ?_; exact ac.out) hb); have aR := A_.mk (F_ (g := ab) (o := .cells #[.string (rdOf ByteArray.empty aj ((Z_ aa a1).f2.f0)), .int .i64 ao, .int .i64 ((Z_ aa a1).f2.f0), .int .i64 ((Z_ aa a1).f2.f1), .int .i64 ((Z_ aa a1).f2.f2)] 62 (0, 0)) (by refine kB ?_; exact al.out) hb); have aS := A_.mk (E_ (by exact lB HB.out) hb); clear ad; clear ai; clear ac; clear al; clear HB; have ad := aJ; have ai := aK; have ac := aL; have al := aR; have HB := aS; clear aJ aK aL aR aS; (try clear hb); (try clear b3); (try clear hk); (try clear hi); have kJ := aY.out; have kK := ae.out; have kL := ar.out; have kM := aE.out; have hD : cJ.cell? ⟨ab, 0, none⟩ = some (.string (rdOf ByteArray.empty aj ((Z_ aa a1).f2.f0))) := (D_ al.out 0).trans rfl; have hE : cJ.cell? ⟨ab, 1, none⟩ = some (.int .i64 ao) := (D_ al.out 1).trans rfl; have hF : cJ.cell? ⟨ab, 2, none⟩ = some (.int .i64 ((Z_ aa a1).f2.f0)) := (D_ al.out 2).trans rfl; have hG : cJ.cell? ⟨ab, 3, none⟩ = some (.int .i64 ((Z_ aa a1).f2.f1)) := (D_ al.out 3).trans rfl; have hH : cJ.cell? ⟨ab, 4, none⟩ = some (.int .i64 ((Z_ aa a1).f2.f2)) := (D_ al.out 4).trans rfl; have hI := B_ al.out 0; have hJ := B_ al.out 1; have hL := B_ al.out 2; have hM := B_ al.out 3; have hN := B_ al.out 4) | ((with_reducible refine P_ (f := 18) rfl ?_); refine R_ (some 101) rfl rfl Tryd.func18 (by kernel_rfl) rfl #[.agg #[.string (rdOf ByteArray.empty aj ((Z_ aa a1).f2.f0)), .int .i64 ao, .int .i64 ((Z_ aa a1).f2.f0), .int .i64 ((Z_ aa a1).f2.f1), .int .i64 ((Z_ aa a1).f2.f2)], .int .i64 bx, .int .i64 bL, .int .i64 bz] rfl (by (try simp only [List.map_toArray, List.map_cons, List.map_nil]); first | done | rfl | (simp only [List.length_drop, List.length_take]; rfl)) ?_; (with_reducible refine (sample_sampler_row.calls (rdOf ByteArray.empty aj ((Z_ aa a1).f2.f0)) ao ((Z_ aa a1).f2.f0) ((Z_ aa a1).f2.f1) ((Z_ aa a1).f2.f2) bx bL bz bc bd bh bm _ A60.out).mono ?_); rintro e mB ⟨rfl, hb⟩; refine ⟨_, rfl, ?_⟩; have aJ := A_.mk (F_ (g := ah) (o := .cells #[.int .i64 aw, .int .i64 ax, .int .i64 ay, .int .i64 az, .int .i64 aA, .int .i64 aB, .int .i64 ao, .int .i64 aC, .slice (some ad157) aa.length aO, .slice aP av.length aQ, .slice (some ad159) aj.length aF] 28 (0, 0)) (by refine kB ?_; exact ad.out) hb); have aK := A_.mk (F_ (g := ak) (o := .cells #[.int .i64 0, .int .i64 0, .int .i64 0, .int .i64 0] 32 (0, 0)) (by refine kB ?_; exact ai.out) hb); have aL := A_.mk (F_ (g := ag) (o := .cells #[.int .i64 ((Z_ aa a1).f0), .int .i64 ((Z_ aa a1).f1.f0), .int .i64 ((Z_ aa a1).f1.f1), .int .i64 ((Z_ aa a1).f1.f2), .int .i64 ((Z_ aa a1).f1.f3), .int .i64 ((Z_ aa a1).f2.f0), .int .i64 ((Z_ aa a1).f2.f1), .int .i64 ((Z_ aa a1).f2.f2)] 54 (0, 0)) (by refine kB ?_; exact ac.out) hb); have aR := A_.mk (F_ (g := ab) (o := .cells #[.string (rdOf ByteArray.empty aj ((Z_ aa a1).f2.f0)), .int .i64 ao, .int .i64 ((Z_ aa a1).f2.f0), .int .i64 ((Z_ aa a1).f2.f1), .int .i64 ((Z_ aa a1).f2.f2)] 62 (0, 0)) (by refine kB ?_; exact al.out) hb); have aS := A_.mk (E_ (by exact lB HB.out) hb); clear ad; clear ai; clear ac; clear al; clear HB; have ad := aJ; have ai := aK; have ac := aL; have al := aR; have HB := aS; clear aJ aK aL aR aS; (try clear hb); (try clear b3); (try clear hk); (try clear hi)) | ((with_reducible refine O_ (N := 16) rfl ?_); (try (refine Q_ (by rfl) ?_; dsimp only)); refine N_ ?hg (N := 16) ?hd (cs := #[.int .i64 0, .int .i64 0, .int .i64 0, .int .i64 0]) (t := 32) ?hr ?_; (case hd => rfl); (case hg => rfl); (case hr => first | (go_simp; done) | (go_simp; rfl)); intro au hg bP hbox hb; have aJ := A_.mk (F_ (g := ah) (o := .cells #[.int .i64 aw, .int .i64 ax, .int .i64 ay, .int .i64 az, .int .i64 aA, .int .i64 aB, .int .i64 ao, .int .i64 aC, .slice (some ad157) aa.length aO, .slice aP av.length aQ, .slice (some ad159) aj.length aF] 28 (0, 0)) (by refine kB ?_; exact ad.out) hb); have aK := A_.mk (F_ (g := ak) (o := .cells #[.int .i64 0, .int .i64 0, .int .i64 0, .int .i64 0] 32 (0, 0)) (by refine kB ?_; exact ai.out) hb); have aL := A_.mk (F_ (g := ag) (o := .cells #[.int .i64 ((Z_ aa a1).f0), .int .i64 ((Z_ aa a1).f1.f0), .int .i64 ((Z_ aa a1).f1.f1), .int .i64 ((Z_ aa a1).f1.f2), .int .i64 ((Z_ aa a1).f1.f3), .int .i64 ((Z_ aa a1).f2.f0), .int .i64 ((Z_ aa a1).f2.f1), .int .i64 ((Z_ aa a1).f2.f2)] 54 (0, 0)) (by refine kB ?_; exact ac.out) hb); have aR := A_.mk (F_ (g := ab) (o := .cells #[.string (rdOf ByteArray.empty aj ((Z_ aa a1).f2.f0)), .int .i64 ao, .int .i64 ((Z_ aa a1).f2.f0), .int .i64 ((Z_ aa a1).f2.f1), .int .i64 ((Z_ aa a1).f2.f2)] 62 (0, 0)) (by refine kB ?_; exact al.out) hb); have aS := A_.mk (E_ (by exact lB HB.out) hb); have bl := A_.mk (hbox); have bA := A_.mk ((by rw [hg]; exact (G_ (by exact lB HB.out)) : w.heap.size ≤ au)); have bQ := A_.mk ((by rw [hg]; exact (G_ (by exact lB HB.out)) : w.heap.size ≤ au)); have bR := A_.mk ((by rw [hg]; exact Nat.ne_of_lt (M_ (g := ah) (o := .cells #[.int .i64 aw, .int .i64 ax, .int .i64 ay, .int .i64 az, .int .i64 aA, .int .i64 aB, .int .i64 ao, .int .i64 aC, .slice (some ad157) aa.length aO, .slice aP av.length aQ, .slice (some ad159) aj.length aF] 28 (0, 0)) (by refine kB ?_; exact ad.out)) : ah ≠ au)); have bS := A_.mk ((by rw [hg]; exact Nat.ne_of_gt (M_ (g := ah) (o := .cells #[.int .i64 aw, .int .i64 ax, .int .i64 ay, .int .i64 az, .int .i64 aA, .int .i64 aB, .int .i64 ao, .int .i64 aC, .slice (some ad157) aa.length aO, .slice aP av.length aQ, .slice (some ad159) aj.length aF] 28 (0, 0)) (by refine kB ?_; exact ad.out)) : au ≠ ah)); have bM := A_.mk ((by rw [hg]; exact Nat.ne_of_lt (M_ (g := ak) (o := .cells #[.int .i64 0, .int .i64 0, .int .i64 0, .int .i64 0] 32 (0, 0)) (by refine kB ?_; exact ai.out)) : ak ≠ au)); have bN := A_.mk ((by rw [hg]; exact Nat.ne_of_gt (M_ (g := ak) (o := .cells #[.int .i64 0, .int .i64 0, .int .i64 0, .int .i64 0] 32 (0, 0)) (by refine kB ?_; exact ai.out)) : au ≠ ak)); have bO := A_.mk ((by rw [hg]; exact Nat.ne_of_lt (M_ (g := ag) (o := .cells #[.int .i64 ((Z_ aa a1).f0), .int .i64 ((Z_ aa a1).f1.f0), .int .i64 ((Z_ aa a1).f1.f1), .int .i64 ((Z_ aa a1).f1.f2), .int .i64 ((Z_ aa a1).f1.f3), .int .i64 ((Z_ aa a1).f2.f0), .int .i64 ((Z_ aa a1).f2.f1), .int .i64 ((Z_ aa a1).f2.f2)] 54 (0, 0)) (by refine kB ?_; exact ac.out)) : ag ≠ au)); have cF := A_.mk ((by rw [hg]; exact Nat.ne_of_gt (M_ (g := ag) (o := .cells #[.int .i64 ((Z_ aa a1).f0), .int .i64 ((Z_ aa a1).f1.f0), .int .i64 ((Z_ aa a1).f1.f1), .int .i64 ((Z_ aa a1).f1.f2), .int .i64 ((Z_ aa a1).f1.f3), .int .i64 ((Z_ aa a1).f2.f0), .int .i64 ((Z_ aa a1).f2.f1), .int .i64 ((Z_ aa a1).f2.f2)] 54 (0, 0)) (by refine kB ?_; exact ac.out)) : au ≠ ag)); have cG := A_.mk ((by rw [hg]; exact Nat.ne_of_lt (M_ (g := ab) (o := .cells #[.string (rdOf ByteArray.empty aj ((Z_ aa a1).f2.f0)), .int .i64 ao, .int .i64 ((Z_ aa a1).f2.f0), .int .i64 ((Z_ aa a1).f2.f1), .int .i64 ((Z_ aa a1).f2.f2)] 62 (0, 0)) (by refine kB ?_; exact al.out)) : ab ≠ au)); have cH := A_.mk ((by rw [hg]; exact Nat.ne_of_gt (M_ (g := ab) (o := .cells #[.string (rdOf ByteArray.empty aj ((Z_ aa a1).f2.f0)), .int .i64 ao, .int .i64 ((Z_ aa a1).f2.f0), .int .i64 ((Z_ aa a1).f2.f1), .int .i64 ((Z_ aa a1).f2.f2)] 62 (0, 0)) (by refine kB ?_; exact al.out)) : au ≠ ab)); clear ad; clear ai; clear ac; clear al; clear HB; have ad := aJ; have ai := aK; have ac := aL; have al := aR; have HB := aS; have aG := bl; have gZ := bA; have bW := bQ; have bi := bR; have b5 := bS; have aW := bM; have aI := bN; have bj := bO; have b6 := cF; have bk := cG; have b7 := cH; clear aJ aK aL aR aS bl bA bQ bR bS bM bN bO cF cG cH; clear hb hbox hg; have kN := b5.out; have kO := bi.out; have kP := aI.out; have kQ := aW.out; have kR := b6.out; have kS := bj.out; have kT := b7.out; have kU := bk.out; have hO : bP.cell? ⟨au, 0, none⟩ = some (.int .i64 0) := (D_ aG.out 0).trans rfl; have hP : bP.cell? ⟨au, 1, none⟩ = some (.int .i64 0) := (D_ aG.out 1).trans rfl; have hQ : bP.cell? ⟨au, 2, none⟩ = some (.int .i64 0) := (D_ aG.out 2).trans rfl; have hR : bP.cell? ⟨au, 3, none⟩ = some (.int .i64 0) := (D_ aG.out 3).trans rfl; have hS := B_ aG.out 0; have hT := B_ aG.out 1; have hU := B_ aG.out 2; have hV := B_ aG.out 3))
            have aJ : A_ (((((bP.setCell ⟨au, 0, none⟩ (.int .i64 bc)).setCell ⟨au, 1, none⟩ (.int .i64 bd)).setCell ⟨au, 2, none⟩ (.int .i64 bh)).setCell ⟨au, 3, none⟩ (.int .i64 bm)).heap[ah]? = some (.cells #[.int .i64 aw, .int .i64 ax, .int .i64 ay, .int .i64 az, .int .i64 aA, .int .i64 aB, .int .i64 ao, .int .i64 aC, .slice (some ad157) aa.length aO, .slice aP av.length aQ, .slice (some ad159) aj.length aF] 28 (0, 0))) := ⟨by refine kB ?_; refine J_ ?_ bi.out _; refine kB ?_; refine J_ ?_ bi.out _; refine kB ?_; refine J_ ?_ bi.out _; refine kB ?_; refine J_ ?_ bi.out _; refine kB ?_; exact ad.out⟩
            have aK : A_ (((((bP.setCell ⟨au, 0, none⟩ (.int .i64 bc)).setCell ⟨au, 1, none⟩ (.int .i64 bd)).setCell ⟨au, 2, none⟩ (.int .i64 bh)).setCell ⟨au, 3, none⟩ (.int .i64 bm)).heap[ak]? = some (.cells #[.int .i64 0, .int .i64 0, .int .i64 0, .int .i64 0] 32 (0, 0))) := ⟨by refine kB ?_; refine J_ ?_ aW.out _; refine kB ?_; refine J_ ?_ aW.out _; refine kB ?_; refine J_ ?_ aW.out _; refine kB ?_; refine J_ ?_ aW.out _; refine kB ?_; exact ai.out⟩
            have aL : A_ (((((bP.setCell ⟨au, 0, none⟩ (.int .i64 bc)).setCell ⟨au, 1, none⟩ (.int .i64 bd)).setCell ⟨au, 2, none⟩ (.int .i64 bh)).setCell ⟨au, 3, none⟩ (.int .i64 bm)).heap[ag]? = some (.cells #[.int .i64 ((Z_ aa a1).f0), .int .i64 ((Z_ aa a1).f1.f0), .int .i64 ((Z_ aa a1).f1.f1), .int .i64 ((Z_ aa a1).f1.f2), .int .i64 ((Z_ aa a1).f1.f3), .int .i64 ((Z_ aa a1).f2.f0), .int .i64 ((Z_ aa a1).f2.f1), .int .i64 ((Z_ aa a1).f2.f2)] 54 (0, 0))) := ⟨by refine kB ?_; refine J_ ?_ bj.out _; refine kB ?_; refine J_ ?_ bj.out _; refine kB ?_; refine J_ ?_ bj.out _; refine kB ?_; refine J_ ?_ bj.out _; refine kB ?_; exact ac.out⟩
            have aR : A_ (((((bP.setCell ⟨au, 0, none⟩ (.int .i64 bc)).setCell ⟨au, 1, none⟩ (.int .i64 bd)).setCell ⟨au, 2, none⟩ (.int .i64 bh)).setCell ⟨au, 3, none⟩ (.int .i64 bm)).heap[ab]? = some (.cells #[.string (rdOf ByteArray.empty aj ((Z_ aa a1).f2.f0)), .int .i64 ao, .int .i64 ((Z_ aa a1).f2.f0), .int .i64 ((Z_ aa a1).f2.f1), .int .i64 ((Z_ aa a1).f2.f2)] 62 (0, 0))) := ⟨by refine kB ?_; refine J_ ?_ bk.out _; refine kB ?_; refine J_ ?_ bk.out _; refine kB ?_; refine J_ ?_ bk.out _; refine kB ?_; refine J_ ?_ bk.out _; refine kB ?_; exact al.out⟩
            have aS : A_ (((((bP.setCell ⟨au, 0, none⟩ (.int .i64 bc)).setCell ⟨au, 1, none⟩ (.int .i64 bd)).setCell ⟨au, 2, none⟩ (.int .i64 bh)).setCell ⟨au, 3, none⟩ (.int .i64 bm)).heap[au]? = some (.cells #[.int .i64 bc, .int .i64 bd, .int .i64 bh, .int .i64 bm] 32 (0, 0))) := ⟨by refine kB ?_; refine L_ (cs := #[.int .i64 bc, .int .i64 bd, .int .i64 bh, .int .i64 0]) ?_ 3 _ rfl; refine kB ?_; refine L_ (cs := #[.int .i64 bc, .int .i64 bd, .int .i64 0, .int .i64 0]) ?_ 2 _ rfl; refine kB ?_; refine L_ (cs := #[.int .i64 bc, .int .i64 0, .int .i64 0, .int .i64 0]) ?_ 1 _ rfl; refine kB ?_; refine L_ (cs := #[.int .i64 0, .int .i64 0, .int .i64 0, .int .i64 0]) ?_ 0 _ rfl; refine kB ?_; exact aG.out⟩
            have bl : A_ (Below w.heap.size w ((((bP.setCell ⟨au, 0, none⟩ (.int .i64 bc)).setCell ⟨au, 1, none⟩ (.int .i64 bd)).setCell ⟨au, 2, none⟩ (.int .i64 bh)).setCell ⟨au, 3, none⟩ (.int .i64 bm))) := ⟨by exact lB HB.out⟩
            (try clear ad)
            (try clear ai)
            (try clear ac)
            (try clear al)
            (try clear aG)
            (try clear HB)
            generalize ((((bP.setCell ⟨au, 0, none⟩ (.int .i64 bc)).setCell ⟨au, 1, none⟩ (.int .i64 bd)).setCell ⟨au, 2, none⟩ (.int .i64 bh)).setCell ⟨au, 3, none⟩ (.int .i64 bm)) = hW at aJ aK aL aR aS bl ⊢
            have ad := aJ
            have ai := aK
            have ac := aL
            have al := aR
            have aG := aS
            have HB := bl
            clear aJ aK aL aR aS bl
            have aJ := A_.mk (Y_ ad.out)
            have aK := A_.mk (Y_ ai.out)
            have aL := A_.mk (Y_ ac.out)
            have aR := A_.mk (Y_ al.out)
            have aS := A_.mk (Y_ aG.out)
            have bl := A_.mk (T_ HB.out)
            clear ad
            clear ai
            clear ac
            clear al
            clear aG
            clear HB
            have ad := aJ
            have ai := aK
            have ac := aL
            have al := aR
            have aG := aS
            have HB := bl
            clear aJ aK aL aR aS bl
            refine start_ (n := 11) (S := fun w' => w'.cell? ⟨au, 0, none⟩ = some (.int .i64 bc) ∧ w'.cell? ⟨au, 1, none⟩ = some (.int .i64 bd) ∧ w'.cell? ⟨au, 2, none⟩ = some (.int .i64 bh) ∧ w'.cell? ⟨au, 3, none⟩ = some (.int .i64 bm) ∧ w'.cell? ⟨ab, 0, none⟩ = some (.string (rdOf ByteArray.empty aj ((Z_ aa a1).f2.f0))) ∧ w'.cell? ⟨ab, 1, none⟩ = some (.int .i64 ao) ∧ w'.cell? ⟨ab, 2, none⟩ = some (.int .i64 ((Z_ aa a1).f2.f0)) ∧ w'.cell? ⟨ab, 3, none⟩ = some (.int .i64 ((Z_ aa a1).f2.f1)) ∧ w'.cell? ⟨ab, 4, none⟩ = some (.int .i64 ((Z_ aa a1).f2.f2))) (ds := []) #[false, false, false, false, false, false, false, false, false, false, false] (by kernel_rfl) rfl rfl ⟨(D_ aG.out 0).trans rfl, (D_ aG.out 1).trans rfl, (D_ aG.out 2).trans rfl, (D_ aG.out 3).trans rfl, (D_ al.out 0).trans rfl, (D_ al.out 1).trans rfl, (D_ al.out 2).trans rfl, (D_ al.out 3).trans rfl, (D_ al.out 4).trans rfl⟩ (fun hHeld => ?_); refine with_tabW sample_At.tab12 sample_At.bits12 (fun HT_ HW_ => ?_)
            generalize hW.drew = mC at ad ai ac al aG HB hHeld ⊢
            refine pure_ (i := 2) (N := some 109) (v := ?_) (a' := ?_) #[false, false, true, false, false, false, false, false, false, false, false] rfl rfl (A1_ HT_.out (by kernel_rfl)) (fun _ _ _ h => h) (Or.inl ⟨by rfl, ?_⟩) ?_ ?_
            rotate_left
            ·intro w'
             go_simp
             with_reducible rfl
            rotate_left
            ·exact pA
            refine pure_ (i := 3) (N := some 110) (v := ?_) (a' := ?_) #[false, false, true, true, false, false, false, false, false, false, false] rfl rfl (A1_ HT_.out (by kernel_rfl)) (fun _ _ _ h => h) (Or.inl ⟨by rfl, ?_⟩) ?_ ?_
            rotate_left
            ·intro w'
             go_simp
             with_reducible rfl
            rotate_left
            ·exact pA
            refine pure_ (i := 4) (N := some 111) (v := ?_) (a' := ?_) #[false, false, true, true, true, false, false, false, false, false, false] rfl rfl (A1_ HT_.out (by kernel_rfl)) (fun _ _ _ h => h) (Or.inl ⟨by rfl, ?_⟩) ?_ ?_
            rotate_left
            ·intro w'
             go_simp
             with_reducible rfl
            rotate_left
            ·exact pA
            refine pure_ (i := 5) (N := some 112) (v := ?_) (a' := ?_) #[false, false, true, true, true, true, false, false, false, false, false] rfl rfl (A1_ HT_.out (by kernel_rfl)) (fun _ _ _ h => h) (Or.inl ⟨by rfl, ?_⟩) ?_ ?_
            rotate_left
            ·intro w'
             go_simp
             with_reducible rfl
            rotate_left
            ·exact pA
            refine pure_ (i := 7) (N := some 114) (v := ?_) (a' := ?_) #[false, false, true, true, true, true, false, true, false, false, false] rfl rfl (A1_ HT_.out (by kernel_rfl)) (fun _ _ _ h => h) (Or.inl ⟨by rfl, ?_⟩) ?_ ?_
            rotate_left
            ·intro w'
             go_simp
             with_reducible rfl
            rotate_left
            ·exact pA
            refine take_ (i := 0) (N := some 107) (v := ?_) (a' := ?_) #[true, false, true, true, true, true, false, true, false, false, false] rfl rfl (B1_ HT_.out HW_.out (by kernel_rfl)) (fun _ _ _ h => h) (Or.inl ⟨by rfl, ?_⟩) hHeld ?_ ?_
            rotate_left
            ·rintro w' ⟨s0, s1, s2, s3, s4, s5, s6, s7, s8⟩
             go_simp
             with_reducible rfl
            rotate_left
            ·exact pA
            refine take_ (i := 1) (N := some 108) (v := ?_) (a' := ?_) #[true, true, true, true, true, true, false, true, false, false, false] rfl rfl (B1_ HT_.out HW_.out (by kernel_rfl)) (fun _ _ _ h => h) (Or.inl ⟨by rfl, ?_⟩) hHeld ?_ ?_
            rotate_left
            ·rintro w' ⟨s0, s1, s2, s3, s4, s5, s6, s7, s8⟩
             go_simp
             with_reducible rfl
            rotate_left
            ·exact pA
            refine one_ (i := 6) (N := some 113) #[true, true, true, true, true, true, true, true, false, false, false] rfl rfl (one_of HT_.out (by kernel_rfl)) (by decide) (fun K hK => ?_)
            refine goes_ Tryd.func18 (by kernel_rfl) rfl #[.agg #[.string (rdOf ByteArray.empty aj ((Z_ aa a1).f2.f0)), .int .i64 ao, .int .i64 ((Z_ aa a1).f2.f0), .int .i64 ((Z_ aa a1).f2.f1), .int .i64 ((Z_ aa a1).f2.f2)], .int .i64 bx, .int .i64 (wrap64 (bL + 1)), .int .i64 bz] (by rfl) rfl rfl (by (try simp only [List.map_toArray, List.map_cons, List.map_nil]); first | done | rfl | (simp only [List.length_drop, List.length_take]; rfl)) ?_
            with_reducible refine (sample_sampler_row.calls (rdOf ByteArray.empty aj ((Z_ aa a1).f2.f0)) ao ((Z_ aa a1).f2.f0) ((Z_ aa a1).f2.f1) ((Z_ aa a1).f2.f2) bx (wrap64 (bL + 1)) bz ek el em en _ A90.out).mono ?_
            rintro e mD ⟨rfl, hb⟩
            refine ⟨_, rfl, ?_⟩
            have aJ := A_.mk (F_ (g := ah) (o := .cells #[.int .i64 aw, .int .i64 ax, .int .i64 ay, .int .i64 az, .int .i64 aA, .int .i64 aB, .int .i64 ao, .int .i64 aC, .slice (some ad157) aa.length aO, .slice aP av.length aQ, .slice (some ad159) aj.length aF] 28 (0, 0)) (by refine kB ?_; exact ad.out) hb)
            have aK := A_.mk (F_ (g := ak) (o := .cells #[.int .i64 0, .int .i64 0, .int .i64 0, .int .i64 0] 32 (0, 0)) (by refine kB ?_; exact ai.out) hb)
            have aL := A_.mk (F_ (g := ag) (o := .cells #[.int .i64 ((Z_ aa a1).f0), .int .i64 ((Z_ aa a1).f1.f0), .int .i64 ((Z_ aa a1).f1.f1), .int .i64 ((Z_ aa a1).f1.f2), .int .i64 ((Z_ aa a1).f1.f3), .int .i64 ((Z_ aa a1).f2.f0), .int .i64 ((Z_ aa a1).f2.f1), .int .i64 ((Z_ aa a1).f2.f2)] 54 (0, 0)) (by refine kB ?_; exact ac.out) hb)
            have aR := A_.mk (F_ (g := ab) (o := .cells #[.string (rdOf ByteArray.empty aj ((Z_ aa a1).f2.f0)), .int .i64 ao, .int .i64 ((Z_ aa a1).f2.f0), .int .i64 ((Z_ aa a1).f2.f1), .int .i64 ((Z_ aa a1).f2.f2)] 62 (0, 0)) (by refine kB ?_; exact al.out) hb)
            have aS := A_.mk (F_ (g := au) (o := .cells #[.int .i64 bc, .int .i64 bd, .int .i64 bh, .int .i64 bm] 32 (0, 0)) (by refine kB ?_; exact aG.out) hb)
            have bl := A_.mk (E_ (by exact lB HB.out) hb)
            clear ad
            clear ai
            clear ac
            clear al
            clear aG
            clear HB
            have ad := aJ
            have ai := aK
            have ac := aL
            have al := aR
            have aG := aS
            have HB := bl
            clear aJ aK aL aR aS bl
            (try clear hb)
            (try clear b3)
            (try clear hk)
            (try clear hi)
            refine hK.out _ _ ⟨(D_ aG.out 0).trans rfl, (D_ aG.out 1).trans rfl, (D_ aG.out 2).trans rfl, (D_ aG.out 3).trans rfl, (D_ al.out 0).trans rfl, (D_ al.out 1).trans rfl, (D_ al.out 2).trans rfl, (D_ al.out 3).trans rfl, (D_ al.out 4).trans rfl⟩ (fun hHeld => ?_)
            clear hK K
            refine norm_ (a' := ?_) ?_ ?_
            rotate_left
            ·show Act.put _ (some 113) _ = _
             exact pA
            refine one_ (i := 8) (N := some 115) #[true, true, true, true, true, true, true, true, true, false, false] rfl rfl (one_of HT_.out (by kernel_rfl)) (by decide) (fun K hK => ?_)
            refine goes_ Tryd.func19 (by kernel_rfl) rfl #[.agg #[.int .i64 bc, .int .i64 bd, .int .i64 bh, .int .i64 bm], .agg #[.int .i64 ek, .int .i64 el, .int .i64 em, .int .i64 en], .int .i64 bw] (by rfl) rfl rfl (by (try simp only [List.map_toArray, List.map_cons, List.map_nil]); first | done | rfl | (simp only [List.length_drop, List.length_take]; rfl)) ?_
            with_reducible refine (sample_mixed.calls bc bd bh bm ek el em en bw cl cI eo ey _ A91.out).mono ?_
            rintro e ep ⟨rfl, hb⟩
            refine ⟨_, rfl, ?_⟩
            have aJ := A_.mk (F_ (g := ah) (o := .cells #[.int .i64 aw, .int .i64 ax, .int .i64 ay, .int .i64 az, .int .i64 aA, .int .i64 aB, .int .i64 ao, .int .i64 aC, .slice (some ad157) aa.length aO, .slice aP av.length aQ, .slice (some ad159) aj.length aF] 28 (0, 0)) (by refine kB ?_; exact ad.out) hb)
            have aK := A_.mk (F_ (g := ak) (o := .cells #[.int .i64 0, .int .i64 0, .int .i64 0, .int .i64 0] 32 (0, 0)) (by refine kB ?_; exact ai.out) hb)
            have aL := A_.mk (F_ (g := ag) (o := .cells #[.int .i64 ((Z_ aa a1).f0), .int .i64 ((Z_ aa a1).f1.f0), .int .i64 ((Z_ aa a1).f1.f1), .int .i64 ((Z_ aa a1).f1.f2), .int .i64 ((Z_ aa a1).f1.f3), .int .i64 ((Z_ aa a1).f2.f0), .int .i64 ((Z_ aa a1).f2.f1), .int .i64 ((Z_ aa a1).f2.f2)] 54 (0, 0)) (by refine kB ?_; exact ac.out) hb)
            have aR := A_.mk (F_ (g := ab) (o := .cells #[.string (rdOf ByteArray.empty aj ((Z_ aa a1).f2.f0)), .int .i64 ao, .int .i64 ((Z_ aa a1).f2.f0), .int .i64 ((Z_ aa a1).f2.f1), .int .i64 ((Z_ aa a1).f2.f2)] 62 (0, 0)) (by refine kB ?_; exact al.out) hb)
            have aS := A_.mk (F_ (g := au) (o := .cells #[.int .i64 bc, .int .i64 bd, .int .i64 bh, .int .i64 bm] 32 (0, 0)) (by refine kB ?_; exact aG.out) hb)
            have bl := A_.mk (E_ (by exact lB HB.out) hb)
            clear ad
            clear ai
            clear ac
            clear al
            clear aG
            clear HB
            have ad := aJ
            have ai := aK
            have ac := aL
            have al := aR
            have aG := aS
            have HB := bl
            clear aJ aK aL aR aS bl
            (try clear hb)
            (try clear b3)
            (try clear hk)
            (try clear hi)
            refine hK.out _ _ ⟨(D_ aG.out 0).trans rfl, (D_ aG.out 1).trans rfl, (D_ aG.out 2).trans rfl, (D_ aG.out 3).trans rfl, (D_ al.out 0).trans rfl, (D_ al.out 1).trans rfl, (D_ al.out 2).trans rfl, (D_ al.out 3).trans rfl, (D_ al.out 4).trans rfl⟩ (fun hHeld => ?_)
            clear hK K
            refine norm_ (a' := ?_) ?_ ?_
            rotate_left
            ·show Act.put _ (some 115) _ = _
             exact pA
            refine one_ (i := 9) (N := none) #[true, true, true, true, true, true, true, true, true, true, false] rfl rfl (one_of HT_.out (by kernel_rfl)) (by decide) (fun K hK => ?_)
            have md : ep.cell? ⟨ak, 0, none⟩ = some (.int .i64 0) := (D_ ai.out 0).trans rfl
            have kV := B_ ai.out 0
            have hX := bf.out
            have hY := aX.out
            have hZ := ar.out
            have h0 := aI.out
            have h1 := bg.out
            have h2 := am.out
            have h3 := aE.out
            have h4 := aW.out
            have me : ep.cell? ⟨ak, 1, none⟩ = some (.int .i64 0) := (D_ ai.out 1).trans rfl
            have kW := B_ ai.out 1
            have h5 := bf.out
            have h6 := aX.out
            have h7 := ar.out
            have h8 := aI.out
            have h9 := bg.out
            have ia := am.out
            have ib := aE.out
            have ic := aW.out
            have mf : ep.cell? ⟨ak, 2, none⟩ = some (.int .i64 0) := (D_ ai.out 2).trans rfl
            have kX := B_ ai.out 2
            have id := bf.out
            have ie := aX.out
            have ig := ar.out
            have ih := aI.out
            have ii := bg.out
            have ij := am.out
            have ik := aE.out
            have il := aW.out
            have mg : ep.cell? ⟨ak, 3, none⟩ = some (.int .i64 0) := (D_ ai.out 3).trans rfl
            have kY := B_ ai.out 3
            have im := bf.out
            have io := aX.out
            have ip := ar.out
            have iq := aI.out
            have ir := bg.out
            have it := am.out
            have iu := aE.out
            have iv := aW.out
            refine skip_ (w1 := ?_) (by rfl) rfl ?_ ?_
            rotate_left
            ·go_simp
             rfl
            refine hK.out _ _ ⟨((I_ (p := ⟨ak, _, none⟩) aI.out _).trans (((I_ (p := ⟨ak, _, none⟩) aI.out _).trans (((I_ (p := ⟨ak, _, none⟩) aI.out _).trans (((I_ (p := ⟨ak, _, none⟩) aI.out _).trans (hHeld.1)))))))), ((I_ (p := ⟨ak, _, none⟩) aI.out _).trans (((I_ (p := ⟨ak, _, none⟩) aI.out _).trans (((I_ (p := ⟨ak, _, none⟩) aI.out _).trans (((I_ (p := ⟨ak, _, none⟩) aI.out _).trans (hHeld.2.1)))))))), ((I_ (p := ⟨ak, _, none⟩) aI.out _).trans (((I_ (p := ⟨ak, _, none⟩) aI.out _).trans (((I_ (p := ⟨ak, _, none⟩) aI.out _).trans (((I_ (p := ⟨ak, _, none⟩) aI.out _).trans (hHeld.2.2.1)))))))), ((I_ (p := ⟨ak, _, none⟩) aI.out _).trans (((I_ (p := ⟨ak, _, none⟩) aI.out _).trans (((I_ (p := ⟨ak, _, none⟩) aI.out _).trans (((I_ (p := ⟨ak, _, none⟩) aI.out _).trans (hHeld.2.2.2.1)))))))), ((I_ (p := ⟨ak, _, none⟩) ar.out _).trans (((I_ (p := ⟨ak, _, none⟩) ar.out _).trans (((I_ (p := ⟨ak, _, none⟩) ar.out _).trans (((I_ (p := ⟨ak, _, none⟩) ar.out _).trans (hHeld.2.2.2.2.1)))))))), ((I_ (p := ⟨ak, _, none⟩) ar.out _).trans (((I_ (p := ⟨ak, _, none⟩) ar.out _).trans (((I_ (p := ⟨ak, _, none⟩) ar.out _).trans (((I_ (p := ⟨ak, _, none⟩) ar.out _).trans (hHeld.2.2.2.2.2.1)))))))), ((I_ (p := ⟨ak, _, none⟩) ar.out _).trans (((I_ (p := ⟨ak, _, none⟩) ar.out _).trans (((I_ (p := ⟨ak, _, none⟩) ar.out _).trans (((I_ (p := ⟨ak, _, none⟩) ar.out _).trans (hHeld.2.2.2.2.2.2.1)))))))), ((I_ (p := ⟨ak, _, none⟩) ar.out _).trans (((I_ (p := ⟨ak, _, none⟩) ar.out _).trans (((I_ (p := ⟨ak, _, none⟩) ar.out _).trans (((I_ (p := ⟨ak, _, none⟩) ar.out _).trans (hHeld.2.2.2.2.2.2.2.1)))))))), ((I_ (p := ⟨ak, _, none⟩) ar.out _).trans (((I_ (p := ⟨ak, _, none⟩) ar.out _).trans (((I_ (p := ⟨ak, _, none⟩) ar.out _).trans (((I_ (p := ⟨ak, _, none⟩) ar.out _).trans (hHeld.2.2.2.2.2.2.2.2))))))))⟩ (fun hHeld => ?_)
            clear hK K
            refine pure_ (i := 10) (N := some 9) (v := ?_) (a' := ?_) #[true, true, true, true, true, true, true, true, true, true, true] rfl rfl (A1_ HT_.out (by kernel_rfl)) (fun _ _ _ h => h) (Or.inl ⟨by rfl, ?_⟩) ?_ ?_
            rotate_left
            ·intro w'
             go_simp
             with_reducible rfl
            rotate_left
            ·exact pA
            refine done_ (done_of HT_.out (by kernel_rfl)) ?_
            try go_wp2
            refine bodyPost_ret (results_ct rfl _ _ ak 32 #[.int .i64 cl, .int .i64 cI, .int .i64 eo, .int .i64 ey] (0, 0) _ rfl (by refine kB ?_; refine L_ (cs := #[.int .i64 cl, .int .i64 cI, .int .i64 eo, .int .i64 0]) ?_ 3 _ rfl; refine kB ?_; refine L_ (cs := #[.int .i64 cl, .int .i64 cI, .int .i64 0, .int .i64 0]) ?_ 2 _ rfl; refine kB ?_; refine L_ (cs := #[.int .i64 cl, .int .i64 0, .int .i64 0, .int .i64 0]) ?_ 1 _ rfl; refine kB ?_; refine L_ (cs := #[.int .i64 0, .int .i64 0, .int .i64 0, .int .i64 0]) ?_ 0 _ rfl; refine kB ?_; exact ai.out) Tryd.underlying32 rfl (by kernel_rfl)) rfl ?_
            exact ⟨by first | rfl | (simp [errW_none, errW_some] <;> rfl) | (simp [*, errW_none, errW_some] <;> rfl), by exact lB HB.out⟩
          ·rw [if_neg c57] at H
           exact absurd H (by simp)
         ·rw [if_neg c56] at H
          exact absurd H (by simp)
     ·rw [if_neg c25] at H
      exact absurd H (by simp)
    ·rw [if_neg c24] at H
     exact absurd H (by simp)

end Go.Proofs.YtjcgmjhcaaaieaaDoor.Pr
