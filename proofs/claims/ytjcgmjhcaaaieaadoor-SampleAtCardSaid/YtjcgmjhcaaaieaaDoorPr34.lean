-- printed by a program of this session's (wip/mp.sh), out of the translation; the texts of its folder 'given' are typed by hand
-- shortened (wip/short.py)
import Derived.Test.YtjcgmjhcaaaieaaDoorPr0
import Derived.Test.YtjcgmjhcaaaieaaDoorPr31
import Derived.Test.YtjcgmjhcaaaieaaDoorPr32
import Derived.Test.YtjcgmjhcaaaieaaDoorPr33
namespace Go.Proofs.YtjcgmjhcaaaieaaDoor.Pr
open Go.RowKit Go.Proofs.YtjcgmjhcaaaieaaDoorW.PrintWords Go.Proofs.YtjcgmjhcaaaieaaDoorW.PrintLast Go.Proofs.YtjcgmjhcaaaieaaDoorW.PrintMore
attribute [local go_sem] max2_int min2_int max_two min_two max_three min_three max_four min_four   -- for this text's walks alone
attribute [local go_sem high] eqA32
set_option linter.unusedVariables false
set_option linter.unusedSimpArgs false

/-! ### pochoirref30_May: function 14 -/
mutual
def pochoirref30_May.j0 : Nat → Bool → Int → Int → Int → Int → Int → Int → Int → Int → List (S54) → List (S84) → List ByteArray → Option (Bool)
 | 0, _, _, _, _, _, _, _, _, _, _, _, _ => none
 | k + 1, hR, bd, be, bf, bg, bh, bi, aX, aY, ax, bc, aO => if hR = true then (some false) else (pochoirref30_May.l0 k 0 bd be bf bg bh bi aX aY ax bc aO)
def pochoirref30_May.l0 : Nat → Int → Int → Int → Int → Int → Int → Int → Int → Int → List (S54) → List (S84) → List ByteArray → Option (Bool)
 | 0, _, _, _, _, _, _, _, _, _, _, _, _ => none
 | k + 1, x3, bd, be, bf, bg, bh, bi, aX, aY, ax, bc, aO => if x3 < (aO.length : Int) then (if 0 ≤ x3 then (if ((rdOf ByteArray.empty aO x3).size : Int) = (wrap64 ((wrap64 (4 * aX)) * aY)) then (pochoirref30_May.l0 k (wrap64 (x3 + 1)) bd be bf bg bh bi aX aY ax bc aO) else (some false)) else (none)) else (pochoirref30_May.l1 k 0 bd be bf bg bh bi aX aY ax bc aO)
def pochoirref30_May.l1 : Nat → Int → Int → Int → Int → Int → Int → Int → Int → Int → List (S54) → List (S84) → List ByteArray → Option (Bool)
 | 0, _, _, _, _, _, _, _, _, _, _, _, _ => none
 | k + 1, x4, bd, be, bf, bg, bh, bi, aX, aY, ax, bc, aO => if x4 < (ax.length : Int) then (if 0 ≤ x4 then ((pochoirref30_entry.f k ((Z_ ax x4).f0) ((Z_ ax x4).f1.f0) ((Z_ ax x4).f1.f1) ((Z_ ax x4).f1.f2) ((Z_ ax x4).f1.f3) ((Z_ ax x4).f2.f0) ((Z_ ax x4).f2.f1) ((Z_ ax x4).f2.f2) aX aY (aO.length : Int)).bind fun fa => (if fa = true then (pochoirref30_May.l1 k (wrap64 (x4 + 1)) bd be bf bg bh bi aX aY ax bc aO) else (some false))) else (none)) else ((pochoirref12_May.f k bc (ax.length : Int)).bind fun fb => (some fb))
end
def pochoirref30_May.f (k : Nat) (ag : Int) (al : Int) (ak : Int) (aj : Int) (ai : Int) (ah : Int) (af : Int) (ae : Int) (ad : List (S54)) (am : List (S84)) (ac : List ByteArray) : Option (Bool) := (pochoirref30_in.f ag 16 16384).bind fun bJ => (if bJ = true then ((pochoirref30_in.f al 1 128).bind fun bj => (if bj = true then ((pochoirref30_in.f ak 1 16).bind fun bb => (if bb = true then ((pochoirref30_short.f aj).bind fun aN => (if aN = true then ((pochoirref30_short.f ai).bind fun aD => (if aD = true then ((pochoirref30_short.f ah).bind fun az => (if az = true then ((pochoirref30_in.f af 1 1024).bind fun au => (if au = true then ((pochoirref30_in.f ae 1 1024).bind fun aq => (if aq = true then (if (ac.length : Int) > 16 then (pochoirref30_May.j0 k true ag al ak aj ai ah af ae ad am ac) else ((pochoirref30_in.f (ad.length : Int) 1 1024).bind fun ao => (pochoirref30_May.j0 k (!ao) ag al ak aj ai ah af ae ad am ac))) else (pochoirref30_May.j0 k true ag al ak aj ai ah af ae ad am ac))) else (pochoirref30_May.j0 k true ag al ak aj ai ah af ae ad am ac))) else (pochoirref30_May.j0 k true ag al ak aj ai ah af ae ad am ac))) else (pochoirref30_May.j0 k true ag al ak aj ai ah af ae ad am ac))) else (pochoirref30_May.j0 k true ag al ak aj ai ah af ae ad am ac))) else (pochoirref30_May.j0 k true ag al ak aj ai ah af ae ad am ac))) else (pochoirref30_May.j0 k true ag al ak aj ai ah af ae ad am ac))) else (pochoirref30_May.j0 k true ag al ak aj ai ah af ae ad am ac))
theorem pochoirref30_May.mono_l : ∀ k, (∀ y0 y1 y2 y3 y4 y5 y6 y7 y8 y9 bm bn, LeO (pochoirref30_May.j0 k y0 y1 y2 y3 y4 y5 y6 y7 y8 y9 bm bn) (pochoirref30_May.j0 (k + 1) y0 y1 y2 y3 y4 y5 y6 y7 y8 y9 bm bn)) ∧ (∀ y0 y1 y2 y3 y4 y5 y6 y7 y8 y9 bm bn, LeO (pochoirref30_May.l0 k y0 y1 y2 y3 y4 y5 y6 y7 y8 y9 bm bn) (pochoirref30_May.l0 (k + 1) y0 y1 y2 y3 y4 y5 y6 y7 y8 y9 bm bn)) ∧ (∀ y0 y1 y2 y3 y4 y5 y6 y7 y8 y9 bm bn, LeO (pochoirref30_May.l1 k y0 y1 y2 y3 y4 y5 y6 y7 y8 y9 bm bn) (pochoirref30_May.l1 (k + 1) y0 y1 y2 y3 y4 y5 y6 y7 y8 y9 bm bn))
 | 0 => ⟨fun _ _ _ _ _ _ _ _ _ _ _ _ r h => by simp [pochoirref30_May.j0] at h, fun _ _ _ _ _ _ _ _ _ _ _ _ r h => by simp [pochoirref30_May.l0] at h, fun _ _ _ _ _ _ _ _ _ _ _ _ r h => by simp [pochoirref30_May.l1] at h⟩
 | k + 1 => by
  obtain ⟨ih0, ih1, ih2⟩ := pochoirref30_May.mono_l k
  refine ⟨?_, ?_, ?_⟩
  ·intro y0 y1 y2 y3 y4 y5 y6 y7 y8 y9 bm bn
   unfold pochoirref30_May.j0
   repeat' first
   | (with_reducible exact ih0 _ _ _ _ _ _ _ _ _ _ _ _)
   | (with_reducible exact ih1 _ _ _ _ _ _ _ _ _ _ _ _)
   | (with_reducible exact ih2 _ _ _ _ _ _ _ _ _ _ _ _)
   | (with_reducible exact pochoirref12_May.mono _ _ _)
   | (with_reducible exact pochoirref30_entry.mono _ _ _ _ _ _ _ _ _ _ _ _)
   | (with_reducible exact LeO.refl _)
   | (with_reducible exact LeO.none _)
   | (with_reducible refine LeO.ite ?_ ?_)
   | (with_reducible refine LeO.bind ?_ (fun _ => ?_))
   | exact ih0 _ _ _ _ _ _ _ _ _ _ _ _
   | exact ih1 _ _ _ _ _ _ _ _ _ _ _ _
   | exact ih2 _ _ _ _ _ _ _ _ _ _ _ _
   | exact pochoirref12_May.mono _ _ _
   | exact pochoirref30_entry.mono _ _ _ _ _ _ _ _ _ _ _ _
   | exact LeO.none _
   | refine LeO.ite ?_ ?_
   | refine LeO.bind ?_ (fun _ => ?_)
  ·intro y0 y1 y2 y3 y4 y5 y6 y7 y8 y9 bm bn
   unfold pochoirref30_May.l0
   repeat' first
   | (with_reducible exact ih0 _ _ _ _ _ _ _ _ _ _ _ _)
   | (with_reducible exact ih1 _ _ _ _ _ _ _ _ _ _ _ _)
   | (with_reducible exact ih2 _ _ _ _ _ _ _ _ _ _ _ _)
   | (with_reducible exact pochoirref12_May.mono _ _ _)
   | (with_reducible exact pochoirref30_entry.mono _ _ _ _ _ _ _ _ _ _ _ _)
   | (with_reducible exact LeO.refl _)
   | (with_reducible exact LeO.none _)
   | (with_reducible refine LeO.ite ?_ ?_)
   | (with_reducible refine LeO.bind ?_ (fun _ => ?_))
   | exact ih0 _ _ _ _ _ _ _ _ _ _ _ _
   | exact ih1 _ _ _ _ _ _ _ _ _ _ _ _
   | exact ih2 _ _ _ _ _ _ _ _ _ _ _ _
   | exact pochoirref12_May.mono _ _ _
   | exact pochoirref30_entry.mono _ _ _ _ _ _ _ _ _ _ _ _
   | exact LeO.none _
   | refine LeO.ite ?_ ?_
   | refine LeO.bind ?_ (fun _ => ?_)
  ·intro y0 y1 y2 y3 y4 y5 y6 y7 y8 y9 bm bn
   unfold pochoirref30_May.l1
   repeat' first
   | (with_reducible exact ih0 _ _ _ _ _ _ _ _ _ _ _ _)
   | (with_reducible exact ih1 _ _ _ _ _ _ _ _ _ _ _ _)
   | (with_reducible exact ih2 _ _ _ _ _ _ _ _ _ _ _ _)
   | (with_reducible exact pochoirref12_May.mono _ _ _)
   | (with_reducible exact pochoirref30_entry.mono _ _ _ _ _ _ _ _ _ _ _ _)
   | (with_reducible exact LeO.refl _)
   | (with_reducible exact LeO.none _)
   | (with_reducible refine LeO.ite ?_ ?_)
   | (with_reducible refine LeO.bind ?_ (fun _ => ?_))
   | exact ih0 _ _ _ _ _ _ _ _ _ _ _ _
   | exact ih1 _ _ _ _ _ _ _ _ _ _ _ _
   | exact ih2 _ _ _ _ _ _ _ _ _ _ _ _
   | exact pochoirref12_May.mono _ _ _
   | exact pochoirref30_entry.mono _ _ _ _ _ _ _ _ _ _ _ _
   | exact LeO.none _
   | refine LeO.ite ?_ ?_
   | refine LeO.bind ?_ (fun _ => ?_)
theorem pochoirref30_May.mono : ∀ a0 a1 a2 a3 a4 a5 a6 a7 a8 a9 a10 k, LeO (pochoirref30_May.f k a0 a1 a2 a3 a4 a5 a6 a7 a8 a9 a10) (pochoirref30_May.f (k + 1) a0 a1 a2 a3 a4 a5 a6 a7 a8 a9 a10) := by
 intro a0 a1 a2 a3 a4 a5 a6 a7 a8 a9 a10 k
 obtain ⟨ih0, ih1, ih2⟩ := pochoirref30_May.mono_l k
 unfold pochoirref30_May.f
 repeat' first
   | (with_reducible exact ih0 _ _ _ _ _ _ _ _ _ _ _ _)
   | (with_reducible exact ih1 _ _ _ _ _ _ _ _ _ _ _ _)
   | (with_reducible exact ih2 _ _ _ _ _ _ _ _ _ _ _ _)
   | (with_reducible exact pochoirref12_May.mono _ _ _)
   | (with_reducible exact pochoirref30_entry.mono _ _ _ _ _ _ _ _ _ _ _ _)
   | (with_reducible exact LeO.refl _)
   | (with_reducible exact LeO.none _)
   | (with_reducible refine LeO.ite ?_ ?_)
   | (with_reducible refine LeO.bind ?_ (fun _ => ?_))
   | exact ih0 _ _ _ _ _ _ _ _ _ _ _ _
   | exact ih1 _ _ _ _ _ _ _ _ _ _ _ _
   | exact ih2 _ _ _ _ _ _ _ _ _ _ _ _
   | exact pochoirref12_May.mono _ _ _
   | exact pochoirref30_entry.mono _ _ _ _ _ _ _ _ _ _ _ _
   | exact LeO.none _
   | refine LeO.ite ?_ ?_
   | refine LeO.bind ?_ (fun _ => ?_)
def pochoirref30_May.T6 : Bool × List (List Nat × List Nat) := (true, [([], []), ([0], [0]), ([], []), ([1, 2], [1, 2]), ([3], [3]), ([4], [4]), ([], []), ([6], [6]), ([7], [7]), ([8], [8]), ([], []), ([10], [10]), ([11], [11]), ([9, 12], [9, 12]), ([5, 13], [5, 13])])
def pochoirref30_May.B6 : List Nat := [0, 1, 0, 7, 15, 31, 0, 64, 192, 448, 0, 1024, 3072, 8128, 16383]
theorem pochoirref30_May.tab6 : rtab .any (opsOf Tryd.f14 6) = pochoirref30_May.T6 := by kernel_rfl
theorem pochoirref30_May.bits6 : waitsOk pochoirref30_May.T6.2 pochoirref30_May.B6 = true := by kernel_rfl
def pochoirref30_May.T11 : Bool × List (List Nat × List Nat) := (true, [([], []), ([0], [0]), ([], []), ([1, 2], [1, 2]), ([3], [3]), ([], []), ([5], [5]), ([], []), ([7], [7]), ([8], [8]), ([4, 6, 9], [4, 6, 9]), ([10], [10])])
def pochoirref30_May.B11 : List Nat := [0, 1, 0, 7, 15, 0, 32, 0, 128, 384, 1023, 2047]
theorem pochoirref30_May.tab11 : rtab .any (opsOf Tryd.f14 11) = pochoirref30_May.T11 := by kernel_rfl
theorem pochoirref30_May.bits11 : waitsOk pochoirref30_May.T11.2 pochoirref30_May.B11 = true := by kernel_rfl
set_option maxHeartbeats 8000000 in
set_option maxRecDepth 100000 in
theorem pochoirref30_May.calls (k : Nat) (ag : Int) (al : Int) (ak : Int) (aj : Int) (ai : Int) (ah : Int) (af : Int) (ae : Int) (aB : Option Addr) (ay : Nat) (ad : List (S54)) (av : Option Addr) (aw : Nat) (am : List (S84)) (ar : Option Addr) (ap : Nat) (ac : List ByteArray) (r : Bool) (w : World) (fm : Kd.C k54 w aB ad.length ad) (fo : ad.length ≤ ay) (fp : Kd.C k84 w av am.length am) (fq : am.length ≤ aw) (fd : Kd.C Kd.string w ar ac.length ac) (fe : ac.length ≤ ap) (h : pochoirref30_May.f k ag al ak aj ai ah af ae ad am ac = some r) :
  Calls Tryd.prog 14 #[.agg #[.int .i64 ag, .int .i64 al, .int .i64 ak, .int .i64 aj, .int .i64 ai, .int .i64 ah, .int .i64 af, .int .i64 ae, .slice aB ad.length ay, .slice av am.length aw, .slice ar ac.length ap]] w fun e w' => e = .returned (.bool r) ∧ Below w.heap.size w w' := by
 have hX := Tryd.underlying28
 have hY := Tryd.underlying54
 have hZ := Tryd.underlying23
 have fr := A_.mk fm
 have hU := A_.mk fo
 clear fm fo
 have gz := A_.mk fp
 have gA := A_.mk fq
 clear fp fq
 have ff := A_.mk fd
 have hS := A_.mk fe
 clear fd fe
 have HB := A_.mk (Below.refl w.heap.size w)
 have H : ((pochoirref30_in.f ag 16 16384).bind fun bJ => (if bJ = true then ((pochoirref30_in.f al 1 128).bind fun bj => (if bj = true then ((pochoirref30_in.f ak 1 16).bind fun bb => (if bb = true then ((pochoirref30_short.f aj).bind fun aN => (if aN = true then ((pochoirref30_short.f ai).bind fun aD => (if aD = true then ((pochoirref30_short.f ah).bind fun az => (if az = true then ((pochoirref30_in.f af 1 1024).bind fun au => (if au = true then ((pochoirref30_in.f ae 1 1024).bind fun aq => (if aq = true then (if (ac.length : Int) > 16 then (pochoirref30_May.j0 k true ag al ak aj ai ah af ae ad am ac) else ((pochoirref30_in.f (ad.length : Int) 1 1024).bind fun ao => (pochoirref30_May.j0 k (!ao) ag al ak aj ai ah af ae ad am ac))) else (pochoirref30_May.j0 k true ag al ak aj ai ah af ae ad am ac))) else (pochoirref30_May.j0 k true ag al ak aj ai ah af ae ad am ac))) else (pochoirref30_May.j0 k true ag al ak aj ai ah af ae ad am ac))) else (pochoirref30_May.j0 k true ag al ak aj ai ah af ae ad am ac))) else (pochoirref30_May.j0 k true ag al ak aj ai ah af ae ad am ac))) else (pochoirref30_May.j0 k true ag al ak aj ai ah af ae ad am ac))) else (pochoirref30_May.j0 k true ag al ak aj ai ah af ae ad am ac))) else (pochoirref30_May.j0 k true ag al ak aj ai ah af ae ad am ac))) = some r := h
 clear h
 have gw := A_.mk H
 clear H
 go_enter Tryd.func14, Tryd.ntmps14
 go_upto_region 1 with (first | ((with_reducible refine O_ (N := 1) rfl ?_); (try (refine Q_ (by rfl) ?_; dsimp only)); refine N_ ?hg (N := 1) ?hd (cs := #[.int .i64 ag, .int .i64 al, .int .i64 ak, .int .i64 aj, .int .i64 ai, .int .i64 ah, .int .i64 af, .int .i64 ae, .slice aB ad.length ay, .slice av am.length aw, .slice ar ac.length ap]) (t := 28) ?hr ?_; (case hd => rfl); (case hg => rfl); (case hr => first | (go_simp; done) | (go_simp; rfl)); intro ab hg w3 hbox hb; have aZ := A_.mk (E_ (by exact lB HB.out) hb); have ba := A_.mk (hbox); have gD := A_.mk ((by rw [hg]; exact (G_ (by exact lB HB.out)) : w.heap.size ≤ ab)); have gE := A_.mk ((by rw [hg]; exact (G_ (by exact lB HB.out)) : w.heap.size ≤ ab)); clear HB; have HB := aZ; have aa := ba; have hV := gD; have aA := gE; clear aZ ba gD gE; clear hb hbox hg))
 (try simp only [Act.put, List.setIfInBounds_toArray, List.set_cons_zero, List.set_cons_succ])
 go_cut [65] (fun v65 wc => ∃ (kq : Nat) (eY : Bool), v65 = .bool eY ∧ A_ (pochoirref30_May.j0 kq eY ag al ak aj ai ah af ae ad am ac = some r) ∧ A_ (kq ≤ k) ∧ A_ (wc.heap[ab]? = some (.cells #[.int .i64 ag, .int .i64 al, .int .i64 ak, .int .i64 aj, .int .i64 ai, .int .i64 ah, .int .i64 af, .int .i64 ae, (.slice aB ad.length ay), (.slice av am.length aw), (.slice ar ac.length ap)] 28 (0, 0))) ∧ A_ (Below w.heap.size w wc))
 case first =>
  have H := gw.out
  clear gw
  replace H := Option.bind_eq_some_iff.mp H
  obtain ⟨bJ, A40, H⟩ := H
  replace H : (if bJ = true then ((pochoirref30_in.f al 1 128).bind fun bj => (if bj = true then ((pochoirref30_in.f ak 1 16).bind fun bb => (if bb = true then ((pochoirref30_short.f aj).bind fun aN => (if aN = true then ((pochoirref30_short.f ai).bind fun aD => (if aD = true then ((pochoirref30_short.f ah).bind fun az => (if az = true then ((pochoirref30_in.f af 1 1024).bind fun au => (if au = true then ((pochoirref30_in.f ae 1 1024).bind fun aq => (if aq = true then (if (ac.length : Int) > 16 then (pochoirref30_May.j0 k true ag al ak aj ai ah af ae ad am ac) else ((pochoirref30_in.f (ad.length : Int) 1 1024).bind fun ao => (pochoirref30_May.j0 k (!ao) ag al ak aj ai ah af ae ad am ac))) else (pochoirref30_May.j0 k true ag al ak aj ai ah af ae ad am ac))) else (pochoirref30_May.j0 k true ag al ak aj ai ah af ae ad am ac))) else (pochoirref30_May.j0 k true ag al ak aj ai ah af ae ad am ac))) else (pochoirref30_May.j0 k true ag al ak aj ai ah af ae ad am ac))) else (pochoirref30_May.j0 k true ag al ak aj ai ah af ae ad am ac))) else (pochoirref30_May.j0 k true ag al ak aj ai ah af ae ad am ac))) else (pochoirref30_May.j0 k true ag al ak aj ai ah af ae ad am ac))) else (pochoirref30_May.j0 k true ag al ak aj ai ah af ae ad am ac)) = some r := H
  have A4 := A_.mk A40
  clear A40
  by_cases c5 : bJ = true
  ·subst c5
   have H1 : ((pochoirref30_in.f al 1 128).bind fun bj => (if bj = true then ((pochoirref30_in.f ak 1 16).bind fun bb => (if bb = true then ((pochoirref30_short.f aj).bind fun aN => (if aN = true then ((pochoirref30_short.f ai).bind fun aD => (if aD = true then ((pochoirref30_short.f ah).bind fun az => (if az = true then ((pochoirref30_in.f af 1 1024).bind fun au => (if au = true then ((pochoirref30_in.f ae 1 1024).bind fun aq => (if aq = true then (if (ac.length : Int) > 16 then (pochoirref30_May.j0 k true ag al ak aj ai ah af ae ad am ac) else ((pochoirref30_in.f (ad.length : Int) 1 1024).bind fun ao => (pochoirref30_May.j0 k (!ao) ag al ak aj ai ah af ae ad am ac))) else (pochoirref30_May.j0 k true ag al ak aj ai ah af ae ad am ac))) else (pochoirref30_May.j0 k true ag al ak aj ai ah af ae ad am ac))) else (pochoirref30_May.j0 k true ag al ak aj ai ah af ae ad am ac))) else (pochoirref30_May.j0 k true ag al ak aj ai ah af ae ad am ac))) else (pochoirref30_May.j0 k true ag al ak aj ai ah af ae ad am ac))) else (pochoirref30_May.j0 k true ag al ak aj ai ah af ae ad am ac))) else (pochoirref30_May.j0 k true ag al ak aj ai ah af ae ad am ac))) = some r := by rw [if_pos rfl] at H; exact H
   clear H
   have H := H1
   clear H1
   replace H := Option.bind_eq_some_iff.mp H
   obtain ⟨bj, A60, H⟩ := H
   replace H : (if bj = true then ((pochoirref30_in.f ak 1 16).bind fun bb => (if bb = true then ((pochoirref30_short.f aj).bind fun aN => (if aN = true then ((pochoirref30_short.f ai).bind fun aD => (if aD = true then ((pochoirref30_short.f ah).bind fun az => (if az = true then ((pochoirref30_in.f af 1 1024).bind fun au => (if au = true then ((pochoirref30_in.f ae 1 1024).bind fun aq => (if aq = true then (if (ac.length : Int) > 16 then (pochoirref30_May.j0 k true ag al ak aj ai ah af ae ad am ac) else ((pochoirref30_in.f (ad.length : Int) 1 1024).bind fun ao => (pochoirref30_May.j0 k (!ao) ag al ak aj ai ah af ae ad am ac))) else (pochoirref30_May.j0 k true ag al ak aj ai ah af ae ad am ac))) else (pochoirref30_May.j0 k true ag al ak aj ai ah af ae ad am ac))) else (pochoirref30_May.j0 k true ag al ak aj ai ah af ae ad am ac))) else (pochoirref30_May.j0 k true ag al ak aj ai ah af ae ad am ac))) else (pochoirref30_May.j0 k true ag al ak aj ai ah af ae ad am ac))) else (pochoirref30_May.j0 k true ag al ak aj ai ah af ae ad am ac))) else (pochoirref30_May.j0 k true ag al ak aj ai ah af ae ad am ac)) = some r := H
   have A6 := A_.mk A60
   clear A60
   by_cases c7 : bj = true
   ·subst c7
    have H1 : ((pochoirref30_in.f ak 1 16).bind fun bb => (if bb = true then ((pochoirref30_short.f aj).bind fun aN => (if aN = true then ((pochoirref30_short.f ai).bind fun aD => (if aD = true then ((pochoirref30_short.f ah).bind fun az => (if az = true then ((pochoirref30_in.f af 1 1024).bind fun au => (if au = true then ((pochoirref30_in.f ae 1 1024).bind fun aq => (if aq = true then (if (ac.length : Int) > 16 then (pochoirref30_May.j0 k true ag al ak aj ai ah af ae ad am ac) else ((pochoirref30_in.f (ad.length : Int) 1 1024).bind fun ao => (pochoirref30_May.j0 k (!ao) ag al ak aj ai ah af ae ad am ac))) else (pochoirref30_May.j0 k true ag al ak aj ai ah af ae ad am ac))) else (pochoirref30_May.j0 k true ag al ak aj ai ah af ae ad am ac))) else (pochoirref30_May.j0 k true ag al ak aj ai ah af ae ad am ac))) else (pochoirref30_May.j0 k true ag al ak aj ai ah af ae ad am ac))) else (pochoirref30_May.j0 k true ag al ak aj ai ah af ae ad am ac))) else (pochoirref30_May.j0 k true ag al ak aj ai ah af ae ad am ac))) = some r := by rw [if_pos rfl] at H; exact H
    clear H
    have H := H1
    clear H1
    replace H := Option.bind_eq_some_iff.mp H
    obtain ⟨bb, A80, H⟩ := H
    replace H : (if bb = true then ((pochoirref30_short.f aj).bind fun aN => (if aN = true then ((pochoirref30_short.f ai).bind fun aD => (if aD = true then ((pochoirref30_short.f ah).bind fun az => (if az = true then ((pochoirref30_in.f af 1 1024).bind fun au => (if au = true then ((pochoirref30_in.f ae 1 1024).bind fun aq => (if aq = true then (if (ac.length : Int) > 16 then (pochoirref30_May.j0 k true ag al ak aj ai ah af ae ad am ac) else ((pochoirref30_in.f (ad.length : Int) 1 1024).bind fun ao => (pochoirref30_May.j0 k (!ao) ag al ak aj ai ah af ae ad am ac))) else (pochoirref30_May.j0 k true ag al ak aj ai ah af ae ad am ac))) else (pochoirref30_May.j0 k true ag al ak aj ai ah af ae ad am ac))) else (pochoirref30_May.j0 k true ag al ak aj ai ah af ae ad am ac))) else (pochoirref30_May.j0 k true ag al ak aj ai ah af ae ad am ac))) else (pochoirref30_May.j0 k true ag al ak aj ai ah af ae ad am ac))) else (pochoirref30_May.j0 k true ag al ak aj ai ah af ae ad am ac)) = some r := H
    have A8 := A_.mk A80
    clear A80
    by_cases c9 : bb = true
    ·subst c9
     have H1 : ((pochoirref30_short.f aj).bind fun aN => (if aN = true then ((pochoirref30_short.f ai).bind fun aD => (if aD = true then ((pochoirref30_short.f ah).bind fun az => (if az = true then ((pochoirref30_in.f af 1 1024).bind fun au => (if au = true then ((pochoirref30_in.f ae 1 1024).bind fun aq => (if aq = true then (if (ac.length : Int) > 16 then (pochoirref30_May.j0 k true ag al ak aj ai ah af ae ad am ac) else ((pochoirref30_in.f (ad.length : Int) 1 1024).bind fun ao => (pochoirref30_May.j0 k (!ao) ag al ak aj ai ah af ae ad am ac))) else (pochoirref30_May.j0 k true ag al ak aj ai ah af ae ad am ac))) else (pochoirref30_May.j0 k true ag al ak aj ai ah af ae ad am ac))) else (pochoirref30_May.j0 k true ag al ak aj ai ah af ae ad am ac))) else (pochoirref30_May.j0 k true ag al ak aj ai ah af ae ad am ac))) else (pochoirref30_May.j0 k true ag al ak aj ai ah af ae ad am ac))) = some r := by rw [if_pos rfl] at H; exact H
     clear H
     have H := H1
     clear H1
     replace H := Option.bind_eq_some_iff.mp H
     obtain ⟨aN, A100, H⟩ := H
     replace H : (if aN = true then ((pochoirref30_short.f ai).bind fun aD => (if aD = true then ((pochoirref30_short.f ah).bind fun az => (if az = true then ((pochoirref30_in.f af 1 1024).bind fun au => (if au = true then ((pochoirref30_in.f ae 1 1024).bind fun aq => (if aq = true then (if (ac.length : Int) > 16 then (pochoirref30_May.j0 k true ag al ak aj ai ah af ae ad am ac) else ((pochoirref30_in.f (ad.length : Int) 1 1024).bind fun ao => (pochoirref30_May.j0 k (!ao) ag al ak aj ai ah af ae ad am ac))) else (pochoirref30_May.j0 k true ag al ak aj ai ah af ae ad am ac))) else (pochoirref30_May.j0 k true ag al ak aj ai ah af ae ad am ac))) else (pochoirref30_May.j0 k true ag al ak aj ai ah af ae ad am ac))) else (pochoirref30_May.j0 k true ag al ak aj ai ah af ae ad am ac))) else (pochoirref30_May.j0 k true ag al ak aj ai ah af ae ad am ac)) = some r := H
     have A10 := A_.mk A100
     clear A100
     by_cases c11 : aN = true
     ·subst c11
      have H1 : ((pochoirref30_short.f ai).bind fun aD => (if aD = true then ((pochoirref30_short.f ah).bind fun az => (if az = true then ((pochoirref30_in.f af 1 1024).bind fun au => (if au = true then ((pochoirref30_in.f ae 1 1024).bind fun aq => (if aq = true then (if (ac.length : Int) > 16 then (pochoirref30_May.j0 k true ag al ak aj ai ah af ae ad am ac) else ((pochoirref30_in.f (ad.length : Int) 1 1024).bind fun ao => (pochoirref30_May.j0 k (!ao) ag al ak aj ai ah af ae ad am ac))) else (pochoirref30_May.j0 k true ag al ak aj ai ah af ae ad am ac))) else (pochoirref30_May.j0 k true ag al ak aj ai ah af ae ad am ac))) else (pochoirref30_May.j0 k true ag al ak aj ai ah af ae ad am ac))) else (pochoirref30_May.j0 k true ag al ak aj ai ah af ae ad am ac))) = some r := by rw [if_pos rfl] at H; exact H
      clear H
      have H := H1
      clear H1
      replace H := Option.bind_eq_some_iff.mp H
      obtain ⟨aD, A120, H⟩ := H
      replace H : (if aD = true then ((pochoirref30_short.f ah).bind fun az => (if az = true then ((pochoirref30_in.f af 1 1024).bind fun au => (if au = true then ((pochoirref30_in.f ae 1 1024).bind fun aq => (if aq = true then (if (ac.length : Int) > 16 then (pochoirref30_May.j0 k true ag al ak aj ai ah af ae ad am ac) else ((pochoirref30_in.f (ad.length : Int) 1 1024).bind fun ao => (pochoirref30_May.j0 k (!ao) ag al ak aj ai ah af ae ad am ac))) else (pochoirref30_May.j0 k true ag al ak aj ai ah af ae ad am ac))) else (pochoirref30_May.j0 k true ag al ak aj ai ah af ae ad am ac))) else (pochoirref30_May.j0 k true ag al ak aj ai ah af ae ad am ac))) else (pochoirref30_May.j0 k true ag al ak aj ai ah af ae ad am ac)) = some r := H
      have A12 := A_.mk A120
      clear A120
      by_cases c13 : aD = true
      ·subst c13
       have H1 : ((pochoirref30_short.f ah).bind fun az => (if az = true then ((pochoirref30_in.f af 1 1024).bind fun au => (if au = true then ((pochoirref30_in.f ae 1 1024).bind fun aq => (if aq = true then (if (ac.length : Int) > 16 then (pochoirref30_May.j0 k true ag al ak aj ai ah af ae ad am ac) else ((pochoirref30_in.f (ad.length : Int) 1 1024).bind fun ao => (pochoirref30_May.j0 k (!ao) ag al ak aj ai ah af ae ad am ac))) else (pochoirref30_May.j0 k true ag al ak aj ai ah af ae ad am ac))) else (pochoirref30_May.j0 k true ag al ak aj ai ah af ae ad am ac))) else (pochoirref30_May.j0 k true ag al ak aj ai ah af ae ad am ac))) = some r := by rw [if_pos rfl] at H; exact H
       clear H
       have H := H1
       clear H1
       replace H := Option.bind_eq_some_iff.mp H
       obtain ⟨az, A140, H⟩ := H
       replace H : (if az = true then ((pochoirref30_in.f af 1 1024).bind fun au => (if au = true then ((pochoirref30_in.f ae 1 1024).bind fun aq => (if aq = true then (if (ac.length : Int) > 16 then (pochoirref30_May.j0 k true ag al ak aj ai ah af ae ad am ac) else ((pochoirref30_in.f (ad.length : Int) 1 1024).bind fun ao => (pochoirref30_May.j0 k (!ao) ag al ak aj ai ah af ae ad am ac))) else (pochoirref30_May.j0 k true ag al ak aj ai ah af ae ad am ac))) else (pochoirref30_May.j0 k true ag al ak aj ai ah af ae ad am ac))) else (pochoirref30_May.j0 k true ag al ak aj ai ah af ae ad am ac)) = some r := H
       have A14 := A_.mk A140
       clear A140
       by_cases c15 : az = true
       ·subst c15
        have H1 : ((pochoirref30_in.f af 1 1024).bind fun au => (if au = true then ((pochoirref30_in.f ae 1 1024).bind fun aq => (if aq = true then (if (ac.length : Int) > 16 then (pochoirref30_May.j0 k true ag al ak aj ai ah af ae ad am ac) else ((pochoirref30_in.f (ad.length : Int) 1 1024).bind fun ao => (pochoirref30_May.j0 k (!ao) ag al ak aj ai ah af ae ad am ac))) else (pochoirref30_May.j0 k true ag al ak aj ai ah af ae ad am ac))) else (pochoirref30_May.j0 k true ag al ak aj ai ah af ae ad am ac))) = some r := by rw [if_pos rfl] at H; exact H
        clear H
        have H := H1
        clear H1
        replace H := Option.bind_eq_some_iff.mp H
        obtain ⟨au, A160, H⟩ := H
        replace H : (if au = true then ((pochoirref30_in.f ae 1 1024).bind fun aq => (if aq = true then (if (ac.length : Int) > 16 then (pochoirref30_May.j0 k true ag al ak aj ai ah af ae ad am ac) else ((pochoirref30_in.f (ad.length : Int) 1 1024).bind fun ao => (pochoirref30_May.j0 k (!ao) ag al ak aj ai ah af ae ad am ac))) else (pochoirref30_May.j0 k true ag al ak aj ai ah af ae ad am ac))) else (pochoirref30_May.j0 k true ag al ak aj ai ah af ae ad am ac)) = some r := H
        have A16 := A_.mk A160
        clear A160
        by_cases c17 : au = true
        ·subst c17
         have H1 : ((pochoirref30_in.f ae 1 1024).bind fun aq => (if aq = true then (if (ac.length : Int) > 16 then (pochoirref30_May.j0 k true ag al ak aj ai ah af ae ad am ac) else ((pochoirref30_in.f (ad.length : Int) 1 1024).bind fun ao => (pochoirref30_May.j0 k (!ao) ag al ak aj ai ah af ae ad am ac))) else (pochoirref30_May.j0 k true ag al ak aj ai ah af ae ad am ac))) = some r := by rw [if_pos rfl] at H; exact H
         clear H
         have H := H1
         clear H1
         replace H := Option.bind_eq_some_iff.mp H
         obtain ⟨aq, A180, H⟩ := H
         replace H : (if aq = true then (if (ac.length : Int) > 16 then (pochoirref30_May.j0 k true ag al ak aj ai ah af ae ad am ac) else ((pochoirref30_in.f (ad.length : Int) 1 1024).bind fun ao => (pochoirref30_May.j0 k (!ao) ag al ak aj ai ah af ae ad am ac))) else (pochoirref30_May.j0 k true ag al ak aj ai ah af ae ad am ac)) = some r := H
         have A18 := A_.mk A180
         clear A180
         by_cases c19 : aq = true
         ·subst c19
          have H1 : (if (ac.length : Int) > 16 then (pochoirref30_May.j0 k true ag al ak aj ai ah af ae ad am ac) else ((pochoirref30_in.f (ad.length : Int) 1 1024).bind fun ao => (pochoirref30_May.j0 k (!ao) ag al ak aj ai ah af ae ad am ac))) = some r := by rw [if_pos rfl] at H; exact H
          clear H
          have H := H1
          clear H1
          by_cases c20 : (ac.length : Int) > 16
          ·rw [if_pos c20] at H
           have bl : decide (16 < (ac.length : Int)) = true := decide_eq_true c20
           have fc : decide (16 < ac.length) = true := decide_eq_true (by omega)
           clear c20
           (first | rw [bl] | (simp only [i64_w, i32_w]; rw [bl]) | skip)
           have H' := A_.mk H
           clear H
           have e1 : w3.cell? ⟨ab, 0, none⟩ = some (.int .i64 ag) := (D_ aa.out 0).trans rfl
           have e2 : w3.cell? ⟨ab, 1, none⟩ = some (.int .i64 al) := (D_ aa.out 1).trans rfl
           have e3 : w3.cell? ⟨ab, 2, none⟩ = some (.int .i64 ak) := (D_ aa.out 2).trans rfl
           have e4 : w3.cell? ⟨ab, 3, none⟩ = some (.int .i64 aj) := (D_ aa.out 3).trans rfl
           have e5 : w3.cell? ⟨ab, 4, none⟩ = some (.int .i64 ai) := (D_ aa.out 4).trans rfl
           have e6 : w3.cell? ⟨ab, 5, none⟩ = some (.int .i64 ah) := (D_ aa.out 5).trans rfl
           have e7 : w3.cell? ⟨ab, 6, none⟩ = some (.int .i64 af) := (D_ aa.out 6).trans rfl
           have e8 : w3.cell? ⟨ab, 7, none⟩ = some (.int .i64 ae) := (D_ aa.out 7).trans rfl
           have e9 : w3.cell? ⟨ab, 8, none⟩ = some (.slice aB ad.length ay) := (D_ aa.out 8).trans rfl
           have bK : w3.cell? ⟨ab, 9, none⟩ = some (.slice av am.length aw) := (D_ aa.out 9).trans rfl
           have e0 : w3.cell? ⟨ab, 10, none⟩ = some (.slice ar ac.length ap) := (D_ aa.out 10).trans rfl
           have bL := B_ aa.out 0
           have bM := B_ aa.out 1
           have bN := B_ aa.out 2
           have bO := B_ aa.out 3
           have bP := B_ aa.out 4
           have bQ := B_ aa.out 5
           have bR := B_ aa.out 6
           have bS := B_ aa.out 7
           have bT := B_ aa.out 8
           have bU := B_ aa.out 9
           have bo := B_ aa.out 10
           go_wp2_with (first | ((with_reducible refine P_ (f := 25) rfl ?_); refine R_ (some 7) rfl rfl Tryd.func25 (by kernel_rfl) rfl #[.int .i64 ag, .int .i64 16, .int .i64 16384] rfl (by (try simp only [List.map_toArray, List.map_cons, List.map_nil]); first | done | rfl | (simp only [List.length_drop, List.length_take]; rfl)) ?_; (with_reducible refine (pochoirref30_in.calls ag 16 16384 true _ A4.out).mono ?_); rintro e w' ⟨rfl, ⟨nd, rfl⟩⟩; refine ⟨_, rfl, ?_⟩) | (go_at_call 25; (with_reducible refine (pochoirref30_in.calls al 1 128 true _ A6.out).mono ?_); rintro e w' ⟨rfl, ⟨nd, rfl⟩⟩) | (go_at_call 25; (with_reducible refine (pochoirref30_in.calls ak 1 16 true _ A8.out).mono ?_); rintro e w' ⟨rfl, ⟨nd, rfl⟩⟩) | (go_at_call 26; (with_reducible refine (pochoirref30_short.calls aj true _ A10.out).mono ?_); rintro e w' ⟨rfl, ⟨nd, rfl⟩⟩) | (go_at_call 26; (with_reducible refine (pochoirref30_short.calls ai true _ A12.out).mono ?_); rintro e w' ⟨rfl, ⟨nd, rfl⟩⟩) | (go_at_call 26; (with_reducible refine (pochoirref30_short.calls ah true _ A14.out).mono ?_); rintro e w' ⟨rfl, ⟨nd, rfl⟩⟩) | (go_at_call 25; (with_reducible refine (pochoirref30_in.calls af 1 1024 true _ A16.out).mono ?_); rintro e w' ⟨rfl, ⟨nd, rfl⟩⟩) | (go_at_call 25; (with_reducible refine (pochoirref30_in.calls ae 1 1024 true _ A18.out).mono ?_); rintro e w' ⟨rfl, ⟨nd, rfl⟩⟩))
           go_meet
           case rel => exact ⟨_, (true), (by first | rfl | (simp; done) | (simp [*]; done)), H', ⟨by first | omega | exact Nat.le_refl _⟩, ⟨by refine kB ?_; exact aa.out⟩, ⟨by exact lB HB.out⟩⟩
          ·rw [if_neg c20] at H
           have bl : decide (16 < (ac.length : Int)) = false := decide_eq_false c20
           have fc : decide (16 < ac.length) = false := decide_eq_false (by omega)
           clear c20
           (first | rw [bl] | (simp only [i64_w, i32_w]; rw [bl]) | skip)
           replace H := Option.bind_eq_some_iff.mp H
           obtain ⟨ao, A220, H⟩ := H
           replace H : (pochoirref30_May.j0 k (!ao) ag al ak aj ai ah af ae ad am ac) = some r := H
           have A22 := A_.mk A220
           clear A220
           have H' := A_.mk H
           clear H
           have bV : w3.cell? ⟨ab, 0, none⟩ = some (.int .i64 ag) := (D_ aa.out 0).trans rfl
           have bW : w3.cell? ⟨ab, 1, none⟩ = some (.int .i64 al) := (D_ aa.out 1).trans rfl
           have bX : w3.cell? ⟨ab, 2, none⟩ = some (.int .i64 ak) := (D_ aa.out 2).trans rfl
           have bY : w3.cell? ⟨ab, 3, none⟩ = some (.int .i64 aj) := (D_ aa.out 3).trans rfl
           have bZ : w3.cell? ⟨ab, 4, none⟩ = some (.int .i64 ai) := (D_ aa.out 4).trans rfl
           have b0 : w3.cell? ⟨ab, 5, none⟩ = some (.int .i64 ah) := (D_ aa.out 5).trans rfl
           have b1 : w3.cell? ⟨ab, 6, none⟩ = some (.int .i64 af) := (D_ aa.out 6).trans rfl
           have b2 : w3.cell? ⟨ab, 7, none⟩ = some (.int .i64 ae) := (D_ aa.out 7).trans rfl
           have b3 : w3.cell? ⟨ab, 8, none⟩ = some (.slice aB ad.length ay) := (D_ aa.out 8).trans rfl
           have b4 : w3.cell? ⟨ab, 9, none⟩ = some (.slice av am.length aw) := (D_ aa.out 9).trans rfl
           have bp : w3.cell? ⟨ab, 10, none⟩ = some (.slice ar ac.length ap) := (D_ aa.out 10).trans rfl
           have b5 := B_ aa.out 0
           have b6 := B_ aa.out 1
           have b7 := B_ aa.out 2
           have b8 := B_ aa.out 3
           have b9 := B_ aa.out 4
           have ca := B_ aa.out 5
           have cb := B_ aa.out 6
           have cc := B_ aa.out 7
           have cd := B_ aa.out 8
           have ce := B_ aa.out 9
           have bq := B_ aa.out 10
           go_wp2_with (first | ((with_reducible refine P_ (f := 25) rfl ?_); refine R_ (some 7) rfl rfl Tryd.func25 (by kernel_rfl) rfl #[.int .i64 ag, .int .i64 16, .int .i64 16384] rfl (by (try simp only [List.map_toArray, List.map_cons, List.map_nil]); first | done | rfl | (simp only [List.length_drop, List.length_take]; rfl)) ?_; (with_reducible refine (pochoirref30_in.calls ag 16 16384 true _ A4.out).mono ?_); rintro e w' ⟨rfl, ⟨nd, rfl⟩⟩; refine ⟨_, rfl, ?_⟩) | (go_at_call 25; (with_reducible refine (pochoirref30_in.calls al 1 128 true _ A6.out).mono ?_); rintro e w' ⟨rfl, ⟨nd, rfl⟩⟩) | (go_at_call 25; (with_reducible refine (pochoirref30_in.calls ak 1 16 true _ A8.out).mono ?_); rintro e w' ⟨rfl, ⟨nd, rfl⟩⟩) | (go_at_call 26; (with_reducible refine (pochoirref30_short.calls aj true _ A10.out).mono ?_); rintro e w' ⟨rfl, ⟨nd, rfl⟩⟩) | (go_at_call 26; (with_reducible refine (pochoirref30_short.calls ai true _ A12.out).mono ?_); rintro e w' ⟨rfl, ⟨nd, rfl⟩⟩) | (go_at_call 26; (with_reducible refine (pochoirref30_short.calls ah true _ A14.out).mono ?_); rintro e w' ⟨rfl, ⟨nd, rfl⟩⟩) | (go_at_call 25; (with_reducible refine (pochoirref30_in.calls af 1 1024 true _ A16.out).mono ?_); rintro e w' ⟨rfl, ⟨nd, rfl⟩⟩) | (go_at_call 25; (with_reducible refine (pochoirref30_in.calls ae 1 1024 true _ A18.out).mono ?_); rintro e w' ⟨rfl, ⟨nd, rfl⟩⟩) | (go_at_call 25; (with_reducible refine (pochoirref30_in.calls (ad.length : Int) 1 1024 ao _ A22.out).mono ?_); rintro e w' ⟨rfl, ⟨nd, rfl⟩⟩))
           go_meet
           case rel => exact ⟨_, (!ao), (by first | rfl | (simp; done) | (simp [*]; done)), H', ⟨by first | omega | exact Nat.le_refl _⟩, ⟨by refine kB ?_; exact aa.out⟩, ⟨by exact lB HB.out⟩⟩
         ·replace c19 := Bool.eq_false_iff.mpr c19
          subst c19
          have H1 : (pochoirref30_May.j0 k true ag al ak aj ai ah af ae ad am ac) = some r := by rw [if_neg (show ¬ (false = true) by decide)] at H; exact H
          clear H
          have H := H1
          clear H1
          have H' := A_.mk H
          clear H
          have cf : w3.cell? ⟨ab, 0, none⟩ = some (.int .i64 ag) := (D_ aa.out 0).trans rfl
          have cg : w3.cell? ⟨ab, 1, none⟩ = some (.int .i64 al) := (D_ aa.out 1).trans rfl
          have ch : w3.cell? ⟨ab, 2, none⟩ = some (.int .i64 ak) := (D_ aa.out 2).trans rfl
          have ci : w3.cell? ⟨ab, 3, none⟩ = some (.int .i64 aj) := (D_ aa.out 3).trans rfl
          have cj : w3.cell? ⟨ab, 4, none⟩ = some (.int .i64 ai) := (D_ aa.out 4).trans rfl
          have ck : w3.cell? ⟨ab, 5, none⟩ = some (.int .i64 ah) := (D_ aa.out 5).trans rfl
          have cl : w3.cell? ⟨ab, 6, none⟩ = some (.int .i64 af) := (D_ aa.out 6).trans rfl
          have cm : w3.cell? ⟨ab, 7, none⟩ = some (.int .i64 ae) := (D_ aa.out 7).trans rfl
          have cn : w3.cell? ⟨ab, 8, none⟩ = some (.slice aB ad.length ay) := (D_ aa.out 8).trans rfl
          have co : w3.cell? ⟨ab, 9, none⟩ = some (.slice av am.length aw) := (D_ aa.out 9).trans rfl
          have br : w3.cell? ⟨ab, 10, none⟩ = some (.slice ar ac.length ap) := (D_ aa.out 10).trans rfl
          have cp := B_ aa.out 0
          have cq := B_ aa.out 1
          have cr := B_ aa.out 2
          have ct := B_ aa.out 3
          have cu := B_ aa.out 4
          have cv := B_ aa.out 5
          have cw := B_ aa.out 6
          have cx := B_ aa.out 7
          have cy := B_ aa.out 8
          have cz := B_ aa.out 9
          have bs := B_ aa.out 10
          go_wp2_with (first | ((with_reducible refine P_ (f := 25) rfl ?_); refine R_ (some 7) rfl rfl Tryd.func25 (by kernel_rfl) rfl #[.int .i64 ag, .int .i64 16, .int .i64 16384] rfl (by (try simp only [List.map_toArray, List.map_cons, List.map_nil]); first | done | rfl | (simp only [List.length_drop, List.length_take]; rfl)) ?_; (with_reducible refine (pochoirref30_in.calls ag 16 16384 true _ A4.out).mono ?_); rintro e w' ⟨rfl, ⟨nd, rfl⟩⟩; refine ⟨_, rfl, ?_⟩) | (go_at_call 25; (with_reducible refine (pochoirref30_in.calls al 1 128 true _ A6.out).mono ?_); rintro e w' ⟨rfl, ⟨nd, rfl⟩⟩) | (go_at_call 25; (with_reducible refine (pochoirref30_in.calls ak 1 16 true _ A8.out).mono ?_); rintro e w' ⟨rfl, ⟨nd, rfl⟩⟩) | (go_at_call 26; (with_reducible refine (pochoirref30_short.calls aj true _ A10.out).mono ?_); rintro e w' ⟨rfl, ⟨nd, rfl⟩⟩) | (go_at_call 26; (with_reducible refine (pochoirref30_short.calls ai true _ A12.out).mono ?_); rintro e w' ⟨rfl, ⟨nd, rfl⟩⟩) | (go_at_call 26; (with_reducible refine (pochoirref30_short.calls ah true _ A14.out).mono ?_); rintro e w' ⟨rfl, ⟨nd, rfl⟩⟩) | (go_at_call 25; (with_reducible refine (pochoirref30_in.calls af 1 1024 true _ A16.out).mono ?_); rintro e w' ⟨rfl, ⟨nd, rfl⟩⟩) | (go_at_call 25; (with_reducible refine (pochoirref30_in.calls ae 1 1024 false _ A18.out).mono ?_); rintro e w' ⟨rfl, ⟨nd, rfl⟩⟩))
          go_meet
          case rel => exact ⟨_, (true), (by first | rfl | (simp; done) | (simp [*]; done)), H', ⟨by first | omega | exact Nat.le_refl _⟩, ⟨by refine kB ?_; exact aa.out⟩, ⟨by exact lB HB.out⟩⟩
        ·replace c17 := Bool.eq_false_iff.mpr c17
         subst c17
         have H1 : (pochoirref30_May.j0 k true ag al ak aj ai ah af ae ad am ac) = some r := by rw [if_neg (show ¬ (false = true) by decide)] at H; exact H
         clear H
         have H := H1
         clear H1
         have H' := A_.mk H
         clear H
         have cA : w3.cell? ⟨ab, 0, none⟩ = some (.int .i64 ag) := (D_ aa.out 0).trans rfl
         have cB : w3.cell? ⟨ab, 1, none⟩ = some (.int .i64 al) := (D_ aa.out 1).trans rfl
         have cC : w3.cell? ⟨ab, 2, none⟩ = some (.int .i64 ak) := (D_ aa.out 2).trans rfl
         have cD : w3.cell? ⟨ab, 3, none⟩ = some (.int .i64 aj) := (D_ aa.out 3).trans rfl
         have cE : w3.cell? ⟨ab, 4, none⟩ = some (.int .i64 ai) := (D_ aa.out 4).trans rfl
         have cF : w3.cell? ⟨ab, 5, none⟩ = some (.int .i64 ah) := (D_ aa.out 5).trans rfl
         have cG : w3.cell? ⟨ab, 6, none⟩ = some (.int .i64 af) := (D_ aa.out 6).trans rfl
         have cH : w3.cell? ⟨ab, 7, none⟩ = some (.int .i64 ae) := (D_ aa.out 7).trans rfl
         have cI : w3.cell? ⟨ab, 8, none⟩ = some (.slice aB ad.length ay) := (D_ aa.out 8).trans rfl
         have cJ : w3.cell? ⟨ab, 9, none⟩ = some (.slice av am.length aw) := (D_ aa.out 9).trans rfl
         have bu : w3.cell? ⟨ab, 10, none⟩ = some (.slice ar ac.length ap) := (D_ aa.out 10).trans rfl
         have cK := B_ aa.out 0
         have cL := B_ aa.out 1
         have cM := B_ aa.out 2
         have cN := B_ aa.out 3
         have cO := B_ aa.out 4
         have cP := B_ aa.out 5
         have cQ := B_ aa.out 6
         have cR := B_ aa.out 7
         have cS := B_ aa.out 8
         have cT := B_ aa.out 9
         have bv := B_ aa.out 10
         go_wp2_with (first | ((with_reducible refine P_ (f := 25) rfl ?_); refine R_ (some 7) rfl rfl Tryd.func25 (by kernel_rfl) rfl #[.int .i64 ag, .int .i64 16, .int .i64 16384] rfl (by (try simp only [List.map_toArray, List.map_cons, List.map_nil]); first | done | rfl | (simp only [List.length_drop, List.length_take]; rfl)) ?_; (with_reducible refine (pochoirref30_in.calls ag 16 16384 true _ A4.out).mono ?_); rintro e w' ⟨rfl, ⟨nd, rfl⟩⟩; refine ⟨_, rfl, ?_⟩) | (go_at_call 25; (with_reducible refine (pochoirref30_in.calls al 1 128 true _ A6.out).mono ?_); rintro e w' ⟨rfl, ⟨nd, rfl⟩⟩) | (go_at_call 25; (with_reducible refine (pochoirref30_in.calls ak 1 16 true _ A8.out).mono ?_); rintro e w' ⟨rfl, ⟨nd, rfl⟩⟩) | (go_at_call 26; (with_reducible refine (pochoirref30_short.calls aj true _ A10.out).mono ?_); rintro e w' ⟨rfl, ⟨nd, rfl⟩⟩) | (go_at_call 26; (with_reducible refine (pochoirref30_short.calls ai true _ A12.out).mono ?_); rintro e w' ⟨rfl, ⟨nd, rfl⟩⟩) | (go_at_call 26; (with_reducible refine (pochoirref30_short.calls ah true _ A14.out).mono ?_); rintro e w' ⟨rfl, ⟨nd, rfl⟩⟩) | (go_at_call 25; (with_reducible refine (pochoirref30_in.calls af 1 1024 false _ A16.out).mono ?_); rintro e w' ⟨rfl, ⟨nd, rfl⟩⟩))
         go_meet
         case rel => exact ⟨_, (true), (by first | rfl | (simp; done) | (simp [*]; done)), H', ⟨by first | omega | exact Nat.le_refl _⟩, ⟨by refine kB ?_; exact aa.out⟩, ⟨by exact lB HB.out⟩⟩
       ·replace c15 := Bool.eq_false_iff.mpr c15
        subst c15
        have H1 : (pochoirref30_May.j0 k true ag al ak aj ai ah af ae ad am ac) = some r := by rw [if_neg (show ¬ (false = true) by decide)] at H; exact H
        clear H
        have H := H1
        clear H1
        have H' := A_.mk H
        clear H
        have cU : w3.cell? ⟨ab, 0, none⟩ = some (.int .i64 ag) := (D_ aa.out 0).trans rfl
        have cV : w3.cell? ⟨ab, 1, none⟩ = some (.int .i64 al) := (D_ aa.out 1).trans rfl
        have cW : w3.cell? ⟨ab, 2, none⟩ = some (.int .i64 ak) := (D_ aa.out 2).trans rfl
        have cX : w3.cell? ⟨ab, 3, none⟩ = some (.int .i64 aj) := (D_ aa.out 3).trans rfl
        have cY : w3.cell? ⟨ab, 4, none⟩ = some (.int .i64 ai) := (D_ aa.out 4).trans rfl
        have cZ : w3.cell? ⟨ab, 5, none⟩ = some (.int .i64 ah) := (D_ aa.out 5).trans rfl
        have c0 : w3.cell? ⟨ab, 6, none⟩ = some (.int .i64 af) := (D_ aa.out 6).trans rfl
        have c4 : w3.cell? ⟨ab, 7, none⟩ = some (.int .i64 ae) := (D_ aa.out 7).trans rfl
        have c6 : w3.cell? ⟨ab, 8, none⟩ = some (.slice aB ad.length ay) := (D_ aa.out 8).trans rfl
        have c8 : w3.cell? ⟨ab, 9, none⟩ = some (.slice av am.length aw) := (D_ aa.out 9).trans rfl
        have bw : w3.cell? ⟨ab, 10, none⟩ = some (.slice ar ac.length ap) := (D_ aa.out 10).trans rfl
        have da := B_ aa.out 0
        have db := B_ aa.out 1
        have dc := B_ aa.out 2
        have dd := B_ aa.out 3
        have de := B_ aa.out 4
        have df := B_ aa.out 5
        have dg := B_ aa.out 6
        have dh := B_ aa.out 7
        have di := B_ aa.out 8
        have dj := B_ aa.out 9
        have bx := B_ aa.out 10
        go_wp2_with (first | ((with_reducible refine P_ (f := 25) rfl ?_); refine R_ (some 7) rfl rfl Tryd.func25 (by kernel_rfl) rfl #[.int .i64 ag, .int .i64 16, .int .i64 16384] rfl (by (try simp only [List.map_toArray, List.map_cons, List.map_nil]); first | done | rfl | (simp only [List.length_drop, List.length_take]; rfl)) ?_; (with_reducible refine (pochoirref30_in.calls ag 16 16384 true _ A4.out).mono ?_); rintro e w' ⟨rfl, ⟨nd, rfl⟩⟩; refine ⟨_, rfl, ?_⟩) | (go_at_call 25; (with_reducible refine (pochoirref30_in.calls al 1 128 true _ A6.out).mono ?_); rintro e w' ⟨rfl, ⟨nd, rfl⟩⟩) | (go_at_call 25; (with_reducible refine (pochoirref30_in.calls ak 1 16 true _ A8.out).mono ?_); rintro e w' ⟨rfl, ⟨nd, rfl⟩⟩) | (go_at_call 26; (with_reducible refine (pochoirref30_short.calls aj true _ A10.out).mono ?_); rintro e w' ⟨rfl, ⟨nd, rfl⟩⟩) | (go_at_call 26; (with_reducible refine (pochoirref30_short.calls ai true _ A12.out).mono ?_); rintro e w' ⟨rfl, ⟨nd, rfl⟩⟩) | (go_at_call 26; (with_reducible refine (pochoirref30_short.calls ah false _ A14.out).mono ?_); rintro e w' ⟨rfl, ⟨nd, rfl⟩⟩))
        go_meet
        case rel => exact ⟨_, (true), (by first | rfl | (simp; done) | (simp [*]; done)), H', ⟨by first | omega | exact Nat.le_refl _⟩, ⟨by refine kB ?_; exact aa.out⟩, ⟨by exact lB HB.out⟩⟩
      ·replace c13 := Bool.eq_false_iff.mpr c13
       subst c13
       have H1 : (pochoirref30_May.j0 k true ag al ak aj ai ah af ae ad am ac) = some r := by rw [if_neg (show ¬ (false = true) by decide)] at H; exact H
       clear H
       have H := H1
       clear H1
       have H' := A_.mk H
       clear H
       have dk : w3.cell? ⟨ab, 0, none⟩ = some (.int .i64 ag) := (D_ aa.out 0).trans rfl
       have dl : w3.cell? ⟨ab, 1, none⟩ = some (.int .i64 al) := (D_ aa.out 1).trans rfl
       have dm : w3.cell? ⟨ab, 2, none⟩ = some (.int .i64 ak) := (D_ aa.out 2).trans rfl
       have dn : w3.cell? ⟨ab, 3, none⟩ = some (.int .i64 aj) := (D_ aa.out 3).trans rfl
       have dp : w3.cell? ⟨ab, 4, none⟩ = some (.int .i64 ai) := (D_ aa.out 4).trans rfl
       have dq : w3.cell? ⟨ab, 5, none⟩ = some (.int .i64 ah) := (D_ aa.out 5).trans rfl
       have dr : w3.cell? ⟨ab, 6, none⟩ = some (.int .i64 af) := (D_ aa.out 6).trans rfl
       have dt : w3.cell? ⟨ab, 7, none⟩ = some (.int .i64 ae) := (D_ aa.out 7).trans rfl
       have du : w3.cell? ⟨ab, 8, none⟩ = some (.slice aB ad.length ay) := (D_ aa.out 8).trans rfl
       have dv : w3.cell? ⟨ab, 9, none⟩ = some (.slice av am.length aw) := (D_ aa.out 9).trans rfl
       have bz : w3.cell? ⟨ab, 10, none⟩ = some (.slice ar ac.length ap) := (D_ aa.out 10).trans rfl
       have dw := B_ aa.out 0
       have dx := B_ aa.out 1
       have dy := B_ aa.out 2
       have dz := B_ aa.out 3
       have dA := B_ aa.out 4
       have dB := B_ aa.out 5
       have dC := B_ aa.out 6
       have dD := B_ aa.out 7
       have dE := B_ aa.out 8
       have dF := B_ aa.out 9
       have bA := B_ aa.out 10
       go_wp2_with (first | ((with_reducible refine P_ (f := 25) rfl ?_); refine R_ (some 7) rfl rfl Tryd.func25 (by kernel_rfl) rfl #[.int .i64 ag, .int .i64 16, .int .i64 16384] rfl (by (try simp only [List.map_toArray, List.map_cons, List.map_nil]); first | done | rfl | (simp only [List.length_drop, List.length_take]; rfl)) ?_; (with_reducible refine (pochoirref30_in.calls ag 16 16384 true _ A4.out).mono ?_); rintro e w' ⟨rfl, ⟨nd, rfl⟩⟩; refine ⟨_, rfl, ?_⟩) | (go_at_call 25; (with_reducible refine (pochoirref30_in.calls al 1 128 true _ A6.out).mono ?_); rintro e w' ⟨rfl, ⟨nd, rfl⟩⟩) | (go_at_call 25; (with_reducible refine (pochoirref30_in.calls ak 1 16 true _ A8.out).mono ?_); rintro e w' ⟨rfl, ⟨nd, rfl⟩⟩) | (go_at_call 26; (with_reducible refine (pochoirref30_short.calls aj true _ A10.out).mono ?_); rintro e w' ⟨rfl, ⟨nd, rfl⟩⟩) | (go_at_call 26; (with_reducible refine (pochoirref30_short.calls ai false _ A12.out).mono ?_); rintro e w' ⟨rfl, ⟨nd, rfl⟩⟩))
       go_meet
       case rel => exact ⟨_, (true), (by first | rfl | (simp; done) | (simp [*]; done)), H', ⟨by first | omega | exact Nat.le_refl _⟩, ⟨by refine kB ?_; exact aa.out⟩, ⟨by exact lB HB.out⟩⟩
     ·replace c11 := Bool.eq_false_iff.mpr c11
      subst c11
      have H1 : (pochoirref30_May.j0 k true ag al ak aj ai ah af ae ad am ac) = some r := by rw [if_neg (show ¬ (false = true) by decide)] at H; exact H
      clear H
      have H := H1
      clear H1
      have H' := A_.mk H
      clear H
      have dG : w3.cell? ⟨ab, 0, none⟩ = some (.int .i64 ag) := (D_ aa.out 0).trans rfl
      have dH : w3.cell? ⟨ab, 1, none⟩ = some (.int .i64 al) := (D_ aa.out 1).trans rfl
      have dI : w3.cell? ⟨ab, 2, none⟩ = some (.int .i64 ak) := (D_ aa.out 2).trans rfl
      have dJ : w3.cell? ⟨ab, 3, none⟩ = some (.int .i64 aj) := (D_ aa.out 3).trans rfl
      have dK : w3.cell? ⟨ab, 4, none⟩ = some (.int .i64 ai) := (D_ aa.out 4).trans rfl
      have dL : w3.cell? ⟨ab, 5, none⟩ = some (.int .i64 ah) := (D_ aa.out 5).trans rfl
      have dM : w3.cell? ⟨ab, 6, none⟩ = some (.int .i64 af) := (D_ aa.out 6).trans rfl
      have dN : w3.cell? ⟨ab, 7, none⟩ = some (.int .i64 ae) := (D_ aa.out 7).trans rfl
      have dO : w3.cell? ⟨ab, 8, none⟩ = some (.slice aB ad.length ay) := (D_ aa.out 8).trans rfl
      have dP : w3.cell? ⟨ab, 9, none⟩ = some (.slice av am.length aw) := (D_ aa.out 9).trans rfl
      have bB : w3.cell? ⟨ab, 10, none⟩ = some (.slice ar ac.length ap) := (D_ aa.out 10).trans rfl
      have dQ := B_ aa.out 0
      have dR := B_ aa.out 1
      have dS := B_ aa.out 2
      have dT := B_ aa.out 3
      have dU := B_ aa.out 4
      have dV := B_ aa.out 5
      have dW := B_ aa.out 6
      have dX := B_ aa.out 7
      have dY := B_ aa.out 8
      have dZ := B_ aa.out 9
      have bC := B_ aa.out 10
      go_wp2_with (first | ((with_reducible refine P_ (f := 25) rfl ?_); refine R_ (some 7) rfl rfl Tryd.func25 (by kernel_rfl) rfl #[.int .i64 ag, .int .i64 16, .int .i64 16384] rfl (by (try simp only [List.map_toArray, List.map_cons, List.map_nil]); first | done | rfl | (simp only [List.length_drop, List.length_take]; rfl)) ?_; (with_reducible refine (pochoirref30_in.calls ag 16 16384 true _ A4.out).mono ?_); rintro e w' ⟨rfl, ⟨nd, rfl⟩⟩; refine ⟨_, rfl, ?_⟩) | (go_at_call 25; (with_reducible refine (pochoirref30_in.calls al 1 128 true _ A6.out).mono ?_); rintro e w' ⟨rfl, ⟨nd, rfl⟩⟩) | (go_at_call 25; (with_reducible refine (pochoirref30_in.calls ak 1 16 true _ A8.out).mono ?_); rintro e w' ⟨rfl, ⟨nd, rfl⟩⟩) | (go_at_call 26; (with_reducible refine (pochoirref30_short.calls aj false _ A10.out).mono ?_); rintro e w' ⟨rfl, ⟨nd, rfl⟩⟩))
      go_meet
      case rel => exact ⟨_, (true), (by first | rfl | (simp; done) | (simp [*]; done)), H', ⟨by first | omega | exact Nat.le_refl _⟩, ⟨by refine kB ?_; exact aa.out⟩, ⟨by exact lB HB.out⟩⟩
    ·replace c9 := Bool.eq_false_iff.mpr c9
     subst c9
     have H1 : (pochoirref30_May.j0 k true ag al ak aj ai ah af ae ad am ac) = some r := by rw [if_neg (show ¬ (false = true) by decide)] at H; exact H
     clear H
     have H := H1
     clear H1
     have H' := A_.mk H
     clear H
     have d0 : w3.cell? ⟨ab, 0, none⟩ = some (.int .i64 ag) := (D_ aa.out 0).trans rfl
     have d1 : w3.cell? ⟨ab, 1, none⟩ = some (.int .i64 al) := (D_ aa.out 1).trans rfl
     have d2 : w3.cell? ⟨ab, 2, none⟩ = some (.int .i64 ak) := (D_ aa.out 2).trans rfl
     have d3 : w3.cell? ⟨ab, 3, none⟩ = some (.int .i64 aj) := (D_ aa.out 3).trans rfl
     have d4 : w3.cell? ⟨ab, 4, none⟩ = some (.int .i64 ai) := (D_ aa.out 4).trans rfl
     have d5 : w3.cell? ⟨ab, 5, none⟩ = some (.int .i64 ah) := (D_ aa.out 5).trans rfl
     have d6 : w3.cell? ⟨ab, 6, none⟩ = some (.int .i64 af) := (D_ aa.out 6).trans rfl
     have d7 : w3.cell? ⟨ab, 7, none⟩ = some (.int .i64 ae) := (D_ aa.out 7).trans rfl
     have d8 : w3.cell? ⟨ab, 8, none⟩ = some (.slice aB ad.length ay) := (D_ aa.out 8).trans rfl
     have d9 : w3.cell? ⟨ab, 9, none⟩ = some (.slice av am.length aw) := (D_ aa.out 9).trans rfl
     have bD : w3.cell? ⟨ab, 10, none⟩ = some (.slice ar ac.length ap) := (D_ aa.out 10).trans rfl
     have ea := B_ aa.out 0
     have eb := B_ aa.out 1
     have ec := B_ aa.out 2
     have ed := B_ aa.out 3
     have ee := B_ aa.out 4
     have ef := B_ aa.out 5
     have eg := B_ aa.out 6
     have eh := B_ aa.out 7
     have ei := B_ aa.out 8
     have ej := B_ aa.out 9
     have bE := B_ aa.out 10
     go_wp2_with (first | ((with_reducible refine P_ (f := 25) rfl ?_); refine R_ (some 7) rfl rfl Tryd.func25 (by kernel_rfl) rfl #[.int .i64 ag, .int .i64 16, .int .i64 16384] rfl (by (try simp only [List.map_toArray, List.map_cons, List.map_nil]); first | done | rfl | (simp only [List.length_drop, List.length_take]; rfl)) ?_; (with_reducible refine (pochoirref30_in.calls ag 16 16384 true _ A4.out).mono ?_); rintro e w' ⟨rfl, ⟨nd, rfl⟩⟩; refine ⟨_, rfl, ?_⟩) | (go_at_call 25; (with_reducible refine (pochoirref30_in.calls al 1 128 true _ A6.out).mono ?_); rintro e w' ⟨rfl, ⟨nd, rfl⟩⟩) | (go_at_call 25; (with_reducible refine (pochoirref30_in.calls ak 1 16 false _ A8.out).mono ?_); rintro e w' ⟨rfl, ⟨nd, rfl⟩⟩))
     go_meet
     case rel => exact ⟨_, (true), (by first | rfl | (simp; done) | (simp [*]; done)), H', ⟨by first | omega | exact Nat.le_refl _⟩, ⟨by refine kB ?_; exact aa.out⟩, ⟨by exact lB HB.out⟩⟩
   ·replace c7 := Bool.eq_false_iff.mpr c7
    subst c7
    have H1 : (pochoirref30_May.j0 k true ag al ak aj ai ah af ae ad am ac) = some r := by rw [if_neg (show ¬ (false = true) by decide)] at H; exact H
    clear H
    have H := H1
    clear H1
    have H' := A_.mk H
    clear H
    have ek : w3.cell? ⟨ab, 0, none⟩ = some (.int .i64 ag) := (D_ aa.out 0).trans rfl
    have el : w3.cell? ⟨ab, 1, none⟩ = some (.int .i64 al) := (D_ aa.out 1).trans rfl
    have em : w3.cell? ⟨ab, 2, none⟩ = some (.int .i64 ak) := (D_ aa.out 2).trans rfl
    have en : w3.cell? ⟨ab, 3, none⟩ = some (.int .i64 aj) := (D_ aa.out 3).trans rfl
    have eo : w3.cell? ⟨ab, 4, none⟩ = some (.int .i64 ai) := (D_ aa.out 4).trans rfl
    have ep : w3.cell? ⟨ab, 5, none⟩ = some (.int .i64 ah) := (D_ aa.out 5).trans rfl
    have eq : w3.cell? ⟨ab, 6, none⟩ = some (.int .i64 af) := (D_ aa.out 6).trans rfl
    have er : w3.cell? ⟨ab, 7, none⟩ = some (.int .i64 ae) := (D_ aa.out 7).trans rfl
    have es : w3.cell? ⟨ab, 8, none⟩ = some (.slice aB ad.length ay) := (D_ aa.out 8).trans rfl
    have et : w3.cell? ⟨ab, 9, none⟩ = some (.slice av am.length aw) := (D_ aa.out 9).trans rfl
    have bF : w3.cell? ⟨ab, 10, none⟩ = some (.slice ar ac.length ap) := (D_ aa.out 10).trans rfl
    have eu := B_ aa.out 0
    have ev := B_ aa.out 1
    have ew := B_ aa.out 2
    have ex := B_ aa.out 3
    have ey := B_ aa.out 4
    have ez := B_ aa.out 5
    have eA := B_ aa.out 6
    have eB := B_ aa.out 7
    have eC := B_ aa.out 8
    have eD := B_ aa.out 9
    have bG := B_ aa.out 10
    go_wp2_with (first | ((with_reducible refine P_ (f := 25) rfl ?_); refine R_ (some 7) rfl rfl Tryd.func25 (by kernel_rfl) rfl #[.int .i64 ag, .int .i64 16, .int .i64 16384] rfl (by (try simp only [List.map_toArray, List.map_cons, List.map_nil]); first | done | rfl | (simp only [List.length_drop, List.length_take]; rfl)) ?_; (with_reducible refine (pochoirref30_in.calls ag 16 16384 true _ A4.out).mono ?_); rintro e w' ⟨rfl, ⟨nd, rfl⟩⟩; refine ⟨_, rfl, ?_⟩) | (go_at_call 25; (with_reducible refine (pochoirref30_in.calls al 1 128 false _ A6.out).mono ?_); rintro e w' ⟨rfl, ⟨nd, rfl⟩⟩))
    go_meet
    case rel => exact ⟨_, (true), (by first | rfl | (simp; done) | (simp [*]; done)), H', ⟨by first | omega | exact Nat.le_refl _⟩, ⟨by refine kB ?_; exact aa.out⟩, ⟨by exact lB HB.out⟩⟩
  ·replace c5 := Bool.eq_false_iff.mpr c5
   subst c5
   have H1 : (pochoirref30_May.j0 k true ag al ak aj ai ah af ae ad am ac) = some r := by rw [if_neg (show ¬ (false = true) by decide)] at H; exact H
   clear H
   have H := H1
   clear H1
   have H' := A_.mk H
   clear H
   have eE : w3.cell? ⟨ab, 0, none⟩ = some (.int .i64 ag) := (D_ aa.out 0).trans rfl
   have eF : w3.cell? ⟨ab, 1, none⟩ = some (.int .i64 al) := (D_ aa.out 1).trans rfl
   have eG : w3.cell? ⟨ab, 2, none⟩ = some (.int .i64 ak) := (D_ aa.out 2).trans rfl
   have eH : w3.cell? ⟨ab, 3, none⟩ = some (.int .i64 aj) := (D_ aa.out 3).trans rfl
   have eI : w3.cell? ⟨ab, 4, none⟩ = some (.int .i64 ai) := (D_ aa.out 4).trans rfl
   have eJ : w3.cell? ⟨ab, 5, none⟩ = some (.int .i64 ah) := (D_ aa.out 5).trans rfl
   have eK : w3.cell? ⟨ab, 6, none⟩ = some (.int .i64 af) := (D_ aa.out 6).trans rfl
   have eL : w3.cell? ⟨ab, 7, none⟩ = some (.int .i64 ae) := (D_ aa.out 7).trans rfl
   have eM : w3.cell? ⟨ab, 8, none⟩ = some (.slice aB ad.length ay) := (D_ aa.out 8).trans rfl
   have eN : w3.cell? ⟨ab, 9, none⟩ = some (.slice av am.length aw) := (D_ aa.out 9).trans rfl
   have bH : w3.cell? ⟨ab, 10, none⟩ = some (.slice ar ac.length ap) := (D_ aa.out 10).trans rfl
   have eO := B_ aa.out 0
   have eP := B_ aa.out 1
   have eQ := B_ aa.out 2
   have eR := B_ aa.out 3
   have eS := B_ aa.out 4
   have eT := B_ aa.out 5
   have eU := B_ aa.out 6
   have eV := B_ aa.out 7
   have eW := B_ aa.out 8
   have eX := B_ aa.out 9
   have bI := B_ aa.out 10
   go_wp2_with (first | ((with_reducible refine P_ (f := 25) rfl ?_); refine R_ (some 7) rfl rfl Tryd.func25 (by kernel_rfl) rfl #[.int .i64 ag, .int .i64 16, .int .i64 16384] rfl (by (try simp only [List.map_toArray, List.map_cons, List.map_nil]); first | done | rfl | (simp only [List.length_drop, List.length_take]; rfl)) ?_; (with_reducible refine (pochoirref30_in.calls ag 16 16384 false _ A4.out).mono ?_); rintro e w' ⟨rfl, ⟨nd, rfl⟩⟩; refine ⟨_, rfl, ?_⟩))
   go_meet
   case rel => exact ⟨_, (true), (by first | rfl | (simp; done) | (simp [*]; done)), H', ⟨by first | omega | exact Nat.le_refl _⟩, ⟨by refine kB ?_; exact aa.out⟩, ⟨by exact lB HB.out⟩⟩
 case rest =>
  clear gw
  try clear c1
  try clear c2
  try clear p2
  try clear c5
  try clear c7
  try clear c9
  try clear c11
  try clear c13
  try clear c14
  try clear c15
  try clear c17
  try clear c19
  try clear c20
  try clear bl
  try clear fc
  try clear c25
  try clear e1
  try clear e2
  try clear e0
  try clear e3
  try clear e4
  try clear e5
  try clear e6
  try clear e7
  try clear e8
  try clear e9
  try clear bK
  try clear bV
  try clear bW
  try clear bp
  try clear bX
  try clear bY
  try clear bZ
  try clear b0
  try clear b1
  try clear b2
  try clear b3
  try clear b4
  try clear cf
  try clear cg
  try clear br
  try clear ch
  try clear ci
  try clear cj
  try clear ck
  try clear cl
  try clear cm
  try clear cn
  try clear co
  try clear cA
  try clear cB
  try clear bu
  try clear cC
  try clear cD
  try clear cE
  try clear cF
  try clear cG
  try clear cH
  try clear cI
  try clear cJ
  try clear cU
  try clear cV
  try clear bw
  try clear cW
  try clear cX
  try clear cY
  try clear cZ
  try clear c0
  try clear c4
  try clear c6
  try clear c8
  try clear dk
  try clear dl
  try clear bz
  try clear dm
  try clear dn
  try clear dp
  try clear dq
  try clear dr
  try clear dt
  try clear du
  try clear dv
  try clear dG
  try clear dH
  try clear bB
  try clear dI
  try clear dJ
  try clear dK
  try clear dL
  try clear dM
  try clear dN
  try clear dO
  try clear dP
  try clear d0
  try clear d1
  try clear bD
  try clear d2
  try clear d3
  try clear d4
  try clear d5
  try clear d6
  try clear d7
  try clear d8
  try clear d9
  try clear ek
  try clear el
  try clear bF
  try clear em
  try clear en
  try clear eo
  try clear ep
  try clear eq
  try clear er
  try clear es
  try clear et
  try clear eE
  try clear eF
  try clear bH
  try clear eG
  try clear eH
  try clear eI
  try clear eJ
  try clear eK
  try clear eL
  try clear eM
  try clear eN
  try clear bL
  try clear bM
  try clear bo
  try clear bN
  try clear bO
  try clear bP
  try clear bQ
  try clear bR
  try clear bS
  try clear bT
  try clear bU
  try clear b5
  try clear b6
  try clear bq
  try clear b7
  try clear b8
  try clear b9
  try clear ca
  try clear cb
  try clear cc
  try clear cd
  try clear ce
  try clear cp
  try clear cq
  try clear bs
  try clear cr
  try clear ct
  try clear cu
  try clear cv
  try clear cw
  try clear cx
  try clear cy
  try clear cz
  try clear cK
  try clear cL
  try clear bv
  try clear cM
  try clear cN
  try clear cO
  try clear cP
  try clear cQ
  try clear cR
  try clear cS
  try clear cT
  try clear da
  try clear db
  try clear bx
  try clear dc
  try clear dd
  try clear de
  try clear df
  try clear dg
  try clear dh
  try clear di
  try clear dj
  try clear dw
  try clear dx
  try clear bA
  try clear dy
  try clear dz
  try clear dA
  try clear dB
  try clear dC
  try clear dD
  try clear dE
  try clear dF
  try clear dQ
  try clear dR
  try clear bC
  try clear dS
  try clear dT
  try clear dU
  try clear dV
  try clear dW
  try clear dX
  try clear dY
  try clear dZ
  try clear ea
  try clear eb
  try clear bE
  try clear ec
  try clear ed
  try clear ee
  try clear ef
  try clear eg
  try clear eh
  try clear ei
  try clear ej
  try clear eu
  try clear ev
  try clear bG
  try clear ew
  try clear ex
  try clear ey
  try clear ez
  try clear eA
  try clear eB
  try clear eC
  try clear eD
  try clear eO
  try clear eP
  try clear bI
  try clear eQ
  try clear eR
  try clear eS
  try clear eT
  try clear eU
  try clear eV
  try clear eW
  try clear eX
  obtain ⟨kq, eY, rfl, HA, fs, aa, HB⟩ := hcut
  cases kq with
  | zero => exact absurd HA.out (by simp [pochoirref30_May.j0])
  | succ gx =>
   have H := HA.out
   clear HA
   simp only [pochoirref30_May.j0] at H
   by_cases c32 : eY = true
   ·subst c32
    have H1 : (some false) = some r := by rw [if_pos rfl] at H; exact H
    clear H
    have H := H1
    clear H1
    obtain rfl := Option.some.inj H
    go_wp2
    go_ret
    exact ⟨by first | rfl | (simp [errW_none, errW_some] <;> rfl) | (simp [*, errW_none, errW_some] <;> rfl), by exact lB HB.out⟩
   ·replace c32 := Bool.eq_false_iff.mpr c32
    subst c32
    have H1 : (pochoirref30_May.l0 gx 0 ag al ak aj ai ah af ae ad am ac) = some r := by rw [if_neg (show ¬ (false = true) by decide)] at H; exact H
    clear H
    have H := H1
    clear H1
    have H' := A_.mk H
    clear H
    go_wp2
    go_loopg [3] gx (fun kq v3 w' => ∃ (aC : Int), v3 = .int .i64 aC ∧ A_ (pochoirref30_May.l0 kq aC ag al ak aj ai ah af ae ad am ac = some r) ∧ A_ (kq ≤ gx) ∧ A_ (w'.heap[ab]? = some (.cells #[.int .i64 ag, .int .i64 al, .int .i64 ak, .int .i64 aj, .int .i64 ai, .int .i64 ah, .int .i64 af, .int .i64 ae, (.slice aB ad.length ay), (.slice av am.length aw), (.slice ar ac.length ap)] 28 (0, 0))) ∧ A_ (Below w.heap.size w w'))
    case atStart => exact ⟨(0), (by first | rfl | (simp; done) | (simp [*]; done)), H', ⟨Nat.le_refl _⟩, ⟨by refine kB ?_; exact aa.out⟩, ⟨by exact lB HB.out⟩⟩
    case round =>
     clear H'
     try clear c1
     try clear c2
     try clear p2
     try clear c3
     try clear c5
     try clear c7
     try clear c9
     try clear c11
     try clear c13
     try clear c14
     try clear c15
     try clear c17
     try clear c19
     try clear c20
     try clear bl
     try clear fc
     try clear c25
     try clear c32
     try clear e1
     try clear e2
     try clear e0
     try clear e3
     try clear e4
     try clear e5
     try clear e6
     try clear e7
     try clear e8
     try clear e9
     try clear bK
     try clear bV
     try clear bW
     try clear bp
     try clear bX
     try clear bY
     try clear bZ
     try clear b0
     try clear b1
     try clear b2
     try clear b3
     try clear b4
     try clear cf
     try clear cg
     try clear br
     try clear ch
     try clear ci
     try clear cj
     try clear ck
     try clear cl
     try clear cm
     try clear cn
     try clear co
     try clear cA
     try clear cB
     try clear bu
     try clear cC
     try clear cD
     try clear cE
     try clear cF
     try clear cG
     try clear cH
     try clear cI
     try clear cJ
     try clear cU
     try clear cV
     try clear bw
     try clear cW
     try clear cX
     try clear cY
     try clear cZ
     try clear c0
     try clear c4
     try clear c6
     try clear c8
     try clear dk
     try clear dl
     try clear bz
     try clear dm
     try clear dn
     try clear dp
     try clear dq
     try clear dr
     try clear dt
     try clear du
     try clear dv
     try clear dG
     try clear dH
     try clear bB
     try clear dI
     try clear dJ
     try clear dK
     try clear dL
     try clear dM
     try clear dN
     try clear dO
     try clear dP
     try clear d0
     try clear d1
     try clear bD
     try clear d2
     try clear d3
     try clear d4
     try clear d5
     try clear d6
     try clear d7
     try clear d8
     try clear d9
     try clear ek
     try clear el
     try clear bF
     try clear em
     try clear en
     try clear eo
     try clear ep
     try clear eq
     try clear er
     try clear es
     try clear et
     try clear eE
     try clear eF
     try clear bH
     try clear eG
     try clear eH
     try clear eI
     try clear eJ
     try clear eK
     try clear eL
     try clear eM
     try clear eN
     try clear bL
     try clear bM
     try clear bo
     try clear bN
     try clear bO
     try clear bP
     try clear bQ
     try clear bR
     try clear bS
     try clear bT
     try clear bU
     try clear b5
     try clear b6
     try clear bq
     try clear b7
     try clear b8
     try clear b9
     try clear ca
     try clear cb
     try clear cc
     try clear cd
     try clear ce
     try clear cp
     try clear cq
     try clear bs
     try clear cr
     try clear ct
     try clear cu
     try clear cv
     try clear cw
     try clear cx
     try clear cy
     try clear cz
     try clear cK
     try clear cL
     try clear bv
     try clear cM
     try clear cN
     try clear cO
     try clear cP
     try clear cQ
     try clear cR
     try clear cS
     try clear cT
     try clear da
     try clear db
     try clear bx
     try clear dc
     try clear dd
     try clear de
     try clear df
     try clear dg
     try clear dh
     try clear di
     try clear dj
     try clear dw
     try clear dx
     try clear bA
     try clear dy
     try clear dz
     try clear dA
     try clear dB
     try clear dC
     try clear dD
     try clear dE
     try clear dF
     try clear dQ
     try clear dR
     try clear bC
     try clear dS
     try clear dT
     try clear dU
     try clear dV
     try clear dW
     try clear dX
     try clear dY
     try clear dZ
     try clear ea
     try clear eb
     try clear bE
     try clear ec
     try clear ed
     try clear ee
     try clear ef
     try clear eg
     try clear eh
     try clear ei
     try clear ej
     try clear eu
     try clear ev
     try clear bG
     try clear ew
     try clear ex
     try clear ey
     try clear ez
     try clear eA
     try clear eB
     try clear eC
     try clear eD
     try clear eO
     try clear eP
     try clear bI
     try clear eQ
     try clear eR
     try clear eS
     try clear eT
     try clear eU
     try clear eV
     try clear eW
     try clear eX
     try clear p2
     obtain ⟨aC, rfl, HA, HK2, aa, HB⟩ := hrel
     cases gk with
     | zero => exact absurd HA.out (by simp [pochoirref30_May.l0])
     | succ k2 =>
      have H := HA.out
      clear HA
      simp only [pochoirref30_May.l0] at H
      by_cases c33 : aC < (ac.length : Int)
      ·rw [if_pos c33] at H
       have ft : decide (aC < (ac.length : Int)) = true := decide_eq_true c33
       clear c33
       by_cases c34 : 0 ≤ aC
       ·rw [if_pos c34] at H
        have gB : decide (0 ≤ aC) = true := decide_eq_true c34
        clear c34
        by_cases c35 : ((rdOf ByteArray.empty ac aC).size : Int) = (wrap64 ((wrap64 (4 * af)) * ae))
        ·rw [if_pos c35] at H
         have fu : (((rdOf ByteArray.empty ac aC).size : Int) == (wrap64 ((wrap64 (4 * af)) * ae))) = true := beq_iff_eq.mpr c35
         have fv : (((rdOf ByteArray.empty ac aC).size : Int) != (wrap64 ((wrap64 (4 * af)) * ae))) = false := bne_eq_false_iff_eq.mpr c35
         clear c35
         have H' := A_.mk H
         clear H
         have fw : wr.cell? ⟨ab, 0, none⟩ = some (.int .i64 ag) := (D_ aa.out 0).trans rfl
         have fx : wr.cell? ⟨ab, 1, none⟩ = some (.int .i64 al) := (D_ aa.out 1).trans rfl
         have fy : wr.cell? ⟨ab, 2, none⟩ = some (.int .i64 ak) := (D_ aa.out 2).trans rfl
         have fz : wr.cell? ⟨ab, 3, none⟩ = some (.int .i64 aj) := (D_ aa.out 3).trans rfl
         have fA : wr.cell? ⟨ab, 4, none⟩ = some (.int .i64 ai) := (D_ aa.out 4).trans rfl
         have fB : wr.cell? ⟨ab, 5, none⟩ = some (.int .i64 ah) := (D_ aa.out 5).trans rfl
         have fC : wr.cell? ⟨ab, 6, none⟩ = some (.int .i64 af) := (D_ aa.out 6).trans rfl
         have fD : wr.cell? ⟨ab, 7, none⟩ = some (.int .i64 ae) := (D_ aa.out 7).trans rfl
         have fE : wr.cell? ⟨ab, 8, none⟩ = some (.slice aB ad.length ay) := (D_ aa.out 8).trans rfl
         have fF : wr.cell? ⟨ab, 9, none⟩ = some (.slice av am.length aw) := (D_ aa.out 9).trans rfl
         have fg : wr.cell? ⟨ab, 10, none⟩ = some (.slice ar ac.length ap) := (D_ aa.out 10).trans rfl
         have fG := B_ aa.out 0
         have fH := B_ aa.out 1
         have fI := B_ aa.out 2
         have fJ := B_ aa.out 3
         have fK := B_ aa.out 4
         have fL := B_ aa.out 5
         have fM := B_ aa.out 6
         have fN := B_ aa.out 7
         have fO := B_ aa.out 8
         have fP := B_ aa.out 9
         have fh := B_ aa.out 10
         try go_wp2
         have aZ := A_.mk (Y_ aa.out)
         have ba := A_.mk (T_ HB.out)
         clear aa
         clear HB
         have aa := aZ
         have HB := ba
         clear aZ ba
         have p278 : 0 ≤ (aC : Int) := of_decide_eq_true (by first | (with_reducible assumption) | assumption)
         have q278 : aC < (ac.length : Int) := of_decide_eq_true (by first | (with_reducible assumption) | assumption)
         obtain ⟨ad278, e278, aE⟩ := Kd.at_string ff.out aC p278 q278
         have bk := aE
         cases e278
         replace aE := (HB.out.cell (World.block_lt_of_cell? w _ aE)).trans aE
         replace p278 := eq_true p278
         replace q278 := eq_true q278
         refine start_ (n := 15) (S := fun w' => w'.cell? ⟨ab, 0, none⟩ = some (.int .i64 ag) ∧ w'.cell? ⟨ab, 1, none⟩ = some (.int .i64 al) ∧ w'.cell? ⟨ab, 2, none⟩ = some (.int .i64 ak) ∧ w'.cell? ⟨ab, 3, none⟩ = some (.int .i64 aj) ∧ w'.cell? ⟨ab, 4, none⟩ = some (.int .i64 ai) ∧ w'.cell? ⟨ab, 5, none⟩ = some (.int .i64 ah) ∧ w'.cell? ⟨ab, 6, none⟩ = some (.int .i64 af) ∧ w'.cell? ⟨ab, 7, none⟩ = some (.int .i64 ae) ∧ w'.cell? ⟨ab, 8, none⟩ = some (.slice aB ad.length ay) ∧ w'.cell? ⟨ab, 9, none⟩ = some (.slice av am.length aw) ∧ w'.cell? ⟨ab, 10, none⟩ = some (.slice (some ad278) ac.length ap) ∧ w'.cell? (ad278.add (aC).toNat) = some (.string (rdOf ByteArray.empty ac aC))) (ds := []) #[false, false, false, false, false, false, false, false, false, false, false, false, false, false, false] (by kernel_rfl) rfl rfl ⟨(D_ aa.out 0).trans rfl, (D_ aa.out 1).trans rfl, (D_ aa.out 2).trans rfl, (D_ aa.out 3).trans rfl, (D_ aa.out 4).trans rfl, (D_ aa.out 5).trans rfl, (D_ aa.out 6).trans rfl, (D_ aa.out 7).trans rfl, (D_ aa.out 8).trans rfl, (D_ aa.out 9).trans rfl, (D_ aa.out 10).trans rfl, ((HB.out.cell (World.block_lt_of_cell? w _ bk)).trans bk)⟩ (fun hHeld => ?_); refine with_tabW pochoirref30_May.tab6 pochoirref30_May.bits6 (fun HT_ HW_ => ?_)
         generalize wr.drew = h1 at aa HB aE hHeld ⊢
         refine pure_ (i := 0) (N := some 73) (v := ?_) (a' := ?_) #[true, false, false, false, false, false, false, false, false, false, false, false, false, false, false] rfl rfl (A1_ HT_.out (by kernel_rfl)) (fun _ _ _ h => h) (Or.inl ⟨by rfl, ?_⟩) ?_ ?_
         rotate_left
         ·intro w'
          go_simp
          with_reducible rfl
         rotate_left
         ·exact pA
         refine pure_ (i := 2) (N := some 75) (v := ?_) (a' := ?_) #[true, false, true, false, false, false, false, false, false, false, false, false, false, false, false] rfl rfl (A1_ HT_.out (by kernel_rfl)) (fun _ _ _ h => h) (Or.inl ⟨by rfl, ?_⟩) ?_ ?_
         rotate_left
         ·intro w'
          go_simp
          with_reducible rfl
         rotate_left
         ·exact pA
         refine pure_ (i := 6) (N := some 79) (v := ?_) (a' := ?_) #[true, false, true, false, false, false, true, false, false, false, false, false, false, false, false] rfl rfl (A1_ HT_.out (by kernel_rfl)) (fun _ _ _ h => h) (Or.inl ⟨by rfl, ?_⟩) ?_ ?_
         rotate_left
         ·intro w'
          go_simp
          with_reducible rfl
         rotate_left
         ·exact pA
         refine pure_ (i := 7) (N := some 80) (v := ?_) (a' := ?_) #[true, false, true, false, false, false, true, true, false, false, false, false, false, false, false] rfl rfl (A1_ HT_.out (by kernel_rfl)) (fun _ _ _ h => h) (Or.inl ⟨by rfl, ?_⟩) ?_ ?_
         rotate_left
         ·intro w'
          go_simp
          with_reducible rfl
         rotate_left
         ·exact pA
         refine pure_ (i := 10) (N := some 83) (v := ?_) (a' := ?_) #[true, false, true, false, false, false, true, true, false, false, true, false, false, false, false] rfl rfl (A1_ HT_.out (by kernel_rfl)) (fun _ _ _ h => h) (Or.inl ⟨by rfl, ?_⟩) ?_ ?_
         rotate_left
         ·intro w'
          go_simp
          with_reducible rfl
         rotate_left
         ·exact pA
         refine pure_ (i := 11) (N := some 84) (v := ?_) (a' := ?_) #[true, false, true, false, false, false, true, true, false, false, true, true, false, false, false] rfl rfl (A1_ HT_.out (by kernel_rfl)) (fun _ _ _ h => h) (Or.inl ⟨by rfl, ?_⟩) ?_ ?_
         rotate_left
         ·intro w'
          go_simp
          with_reducible rfl
         rotate_left
         ·exact pA
         refine take_ (i := 1) (N := some 74) (v := ?_) (a' := ?_) #[true, true, true, false, false, false, true, true, false, false, true, true, false, false, false] rfl rfl (B1_ HT_.out HW_.out (by kernel_rfl)) (fun _ _ _ h => h) (Or.inl ⟨by rfl, ?_⟩) hHeld ?_ ?_
         rotate_left
         ·rintro w' ⟨s0, s1, s2, s3, s4, s5, s6, s7, s8, s9, s10, s11⟩
          go_simp
          with_reducible rfl
         rotate_left
         ·exact pA
         refine pure_ (i := 3) (N := some 76) (v := ?_) (a' := ?_) #[true, true, true, true, false, false, true, true, false, false, true, true, false, false, false] rfl rfl (A1_ HT_.out (by kernel_rfl)) (fun _ _ _ h => h) (Or.inl ⟨by rfl, ?_⟩) ?_ ?_
         rotate_left
         ·intro w'
          go_simp
          with_reducible rfl
         rotate_left
         ·exact pA
         refine take_ (i := 4) (N := some 77) (v := ?_) (a' := ?_) #[true, true, true, true, true, false, true, true, false, false, true, true, false, false, false] rfl rfl (B1_ HT_.out HW_.out (by kernel_rfl)) (fun _ _ _ h => h) (Or.inl ⟨by rfl, ?_⟩) hHeld ?_ ?_
         rotate_left
         ·rintro w' ⟨s0, s1, s2, s3, s4, s5, s6, s7, s8, s9, s10, s11⟩
          go_simp
          with_reducible rfl
         rotate_left
         ·exact pA
         refine pure_ (i := 5) (N := some 78) (v := ?_) (a' := ?_) #[true, true, true, true, true, true, true, true, false, false, true, true, false, false, false] rfl rfl (A1_ HT_.out (by kernel_rfl)) (fun _ _ _ h => h) (Or.inl ⟨by rfl, ?_⟩) ?_ ?_
         rotate_left
         ·intro w'
          go_simp
          with_reducible rfl
         rotate_left
         ·exact pA
         refine take_ (i := 8) (N := some 81) (v := ?_) (a' := ?_) #[true, true, true, true, true, true, true, true, true, false, true, true, false, false, false] rfl rfl (B1_ HT_.out HW_.out (by kernel_rfl)) (fun _ _ _ h => h) (Or.inl ⟨by rfl, ?_⟩) hHeld ?_ ?_
         rotate_left
         ·rintro w' ⟨s0, s1, s2, s3, s4, s5, s6, s7, s8, s9, s10, s11⟩
          go_simp
          with_reducible rfl
         rotate_left
         ·exact pA
         refine pure_ (i := 9) (N := some 82) (v := ?_) (a' := ?_) #[true, true, true, true, true, true, true, true, true, true, true, true, false, false, false] rfl rfl (A1_ HT_.out (by kernel_rfl)) (fun _ _ _ h => h) (Or.inl ⟨by rfl, ?_⟩) ?_ ?_
         rotate_left
         ·intro w'
          go_simp
          with_reducible rfl
         rotate_left
         ·exact pA
         refine take_ (i := 12) (N := some 85) (v := ?_) (a' := ?_) #[true, true, true, true, true, true, true, true, true, true, true, true, true, false, false] rfl rfl (B1_ HT_.out HW_.out (by kernel_rfl)) (fun _ _ _ h => h) (Or.inl ⟨by rfl, ?_⟩) hHeld ?_ ?_
         rotate_left
         ·rintro w' ⟨s0, s1, s2, s3, s4, s5, s6, s7, s8, s9, s10, s11⟩
          go_simp
          with_reducible rfl
         rotate_left
         ·exact pA
         refine pure_ (i := 13) (N := some 86) (v := ?_) (a' := ?_) #[true, true, true, true, true, true, true, true, true, true, true, true, true, true, false] rfl rfl (A1_ HT_.out (by kernel_rfl)) (fun _ _ _ h => h) (Or.inl ⟨by rfl, ?_⟩) ?_ ?_
         rotate_left
         ·intro w'
          go_simp
          with_reducible rfl
         rotate_left
         ·exact pA
         refine pure_ (i := 14) (N := some 87) (v := ?_) (a' := ?_) #[true, true, true, true, true, true, true, true, true, true, true, true, true, true, true] rfl rfl (A1_ HT_.out (by kernel_rfl)) (fun _ _ _ h => h) (Or.inl ⟨by rfl, ?_⟩) ?_ ?_
         rotate_left
         ·intro w'
          go_simp
          with_reducible rfl
         rotate_left
         ·exact pA
         refine done_ (done_of HT_.out (by kernel_rfl)) ?_
         try go_wp2
         go_roundg k2
         case measure => have := fs.out; have := HK2.out; omega
         case rel => exact ⟨(wrap64 (aC + 1)), (by first | rfl | (simp; done) | (simp [*]; done)), H', ⟨by have := fs.out; have := HK2.out; omega⟩, ⟨by refine kB ?_; exact aa.out⟩, ⟨by exact lB HB.out⟩⟩
        ·rw [if_neg c35] at H
         have fu : (((rdOf ByteArray.empty ac aC).size : Int) == (wrap64 ((wrap64 (4 * af)) * ae))) = false := beq_eq_false_iff_ne.mpr c35
         have fv : (((rdOf ByteArray.empty ac aC).size : Int) != (wrap64 ((wrap64 (4 * af)) * ae))) = true := bne_iff_ne.mpr c35
         obtain rfl := Option.some.inj H
         have fQ : wr.cell? ⟨ab, 0, none⟩ = some (.int .i64 ag) := (D_ aa.out 0).trans rfl
         have fR : wr.cell? ⟨ab, 1, none⟩ = some (.int .i64 al) := (D_ aa.out 1).trans rfl
         have fS : wr.cell? ⟨ab, 2, none⟩ = some (.int .i64 ak) := (D_ aa.out 2).trans rfl
         have fT : wr.cell? ⟨ab, 3, none⟩ = some (.int .i64 aj) := (D_ aa.out 3).trans rfl
         have fU : wr.cell? ⟨ab, 4, none⟩ = some (.int .i64 ai) := (D_ aa.out 4).trans rfl
         have fV : wr.cell? ⟨ab, 5, none⟩ = some (.int .i64 ah) := (D_ aa.out 5).trans rfl
         have fW : wr.cell? ⟨ab, 6, none⟩ = some (.int .i64 af) := (D_ aa.out 6).trans rfl
         have fX : wr.cell? ⟨ab, 7, none⟩ = some (.int .i64 ae) := (D_ aa.out 7).trans rfl
         have fY : wr.cell? ⟨ab, 8, none⟩ = some (.slice aB ad.length ay) := (D_ aa.out 8).trans rfl
         have fZ : wr.cell? ⟨ab, 9, none⟩ = some (.slice av am.length aw) := (D_ aa.out 9).trans rfl
         have fi : wr.cell? ⟨ab, 10, none⟩ = some (.slice ar ac.length ap) := (D_ aa.out 10).trans rfl
         have f0 := B_ aa.out 0
         have f1 := B_ aa.out 1
         have f2 := B_ aa.out 2
         have f3 := B_ aa.out 3
         have f4 := B_ aa.out 4
         have f5 := B_ aa.out 5
         have f6 := B_ aa.out 6
         have f7 := B_ aa.out 7
         have f8 := B_ aa.out 8
         have f9 := B_ aa.out 9
         have fj := B_ aa.out 10
         try go_wp2
         have aZ := A_.mk (Y_ aa.out)
         have ba := A_.mk (T_ HB.out)
         clear aa
         clear HB
         have aa := aZ
         have HB := ba
         clear aZ ba
         have p278 : 0 ≤ (aC : Int) := of_decide_eq_true (by first | (with_reducible assumption) | assumption)
         have q278 : aC < (ac.length : Int) := of_decide_eq_true (by first | (with_reducible assumption) | assumption)
         obtain ⟨ad278, e278, aE⟩ := Kd.at_string ff.out aC p278 q278
         have bk := aE
         cases e278
         replace aE := (HB.out.cell (World.block_lt_of_cell? w _ aE)).trans aE
         replace p278 := eq_true p278
         replace q278 := eq_true q278
         refine start_ (n := 15) (S := fun w' => w'.cell? ⟨ab, 0, none⟩ = some (.int .i64 ag) ∧ w'.cell? ⟨ab, 1, none⟩ = some (.int .i64 al) ∧ w'.cell? ⟨ab, 2, none⟩ = some (.int .i64 ak) ∧ w'.cell? ⟨ab, 3, none⟩ = some (.int .i64 aj) ∧ w'.cell? ⟨ab, 4, none⟩ = some (.int .i64 ai) ∧ w'.cell? ⟨ab, 5, none⟩ = some (.int .i64 ah) ∧ w'.cell? ⟨ab, 6, none⟩ = some (.int .i64 af) ∧ w'.cell? ⟨ab, 7, none⟩ = some (.int .i64 ae) ∧ w'.cell? ⟨ab, 8, none⟩ = some (.slice aB ad.length ay) ∧ w'.cell? ⟨ab, 9, none⟩ = some (.slice av am.length aw) ∧ w'.cell? ⟨ab, 10, none⟩ = some (.slice (some ad278) ac.length ap) ∧ w'.cell? (ad278.add (aC).toNat) = some (.string (rdOf ByteArray.empty ac aC))) (ds := []) #[false, false, false, false, false, false, false, false, false, false, false, false, false, false, false] (by kernel_rfl) rfl rfl ⟨(D_ aa.out 0).trans rfl, (D_ aa.out 1).trans rfl, (D_ aa.out 2).trans rfl, (D_ aa.out 3).trans rfl, (D_ aa.out 4).trans rfl, (D_ aa.out 5).trans rfl, (D_ aa.out 6).trans rfl, (D_ aa.out 7).trans rfl, (D_ aa.out 8).trans rfl, (D_ aa.out 9).trans rfl, (D_ aa.out 10).trans rfl, ((HB.out.cell (World.block_lt_of_cell? w _ bk)).trans bk)⟩ (fun hHeld => ?_); refine with_tabW pochoirref30_May.tab6 pochoirref30_May.bits6 (fun HT_ HW_ => ?_)
         generalize wr.drew = h2 at aa HB aE hHeld ⊢
         refine pure_ (i := 0) (N := some 73) (v := ?_) (a' := ?_) #[true, false, false, false, false, false, false, false, false, false, false, false, false, false, false] rfl rfl (A1_ HT_.out (by kernel_rfl)) (fun _ _ _ h => h) (Or.inl ⟨by rfl, ?_⟩) ?_ ?_
         rotate_left
         ·intro w'
          go_simp
          with_reducible rfl
         rotate_left
         ·exact pA
         refine pure_ (i := 2) (N := some 75) (v := ?_) (a' := ?_) #[true, false, true, false, false, false, false, false, false, false, false, false, false, false, false] rfl rfl (A1_ HT_.out (by kernel_rfl)) (fun _ _ _ h => h) (Or.inl ⟨by rfl, ?_⟩) ?_ ?_
         rotate_left
         ·intro w'
          go_simp
          with_reducible rfl
         rotate_left
         ·exact pA
         refine pure_ (i := 6) (N := some 79) (v := ?_) (a' := ?_) #[true, false, true, false, false, false, true, false, false, false, false, false, false, false, false] rfl rfl (A1_ HT_.out (by kernel_rfl)) (fun _ _ _ h => h) (Or.inl ⟨by rfl, ?_⟩) ?_ ?_
         rotate_left
         ·intro w'
          go_simp
          with_reducible rfl
         rotate_left
         ·exact pA
         refine pure_ (i := 7) (N := some 80) (v := ?_) (a' := ?_) #[true, false, true, false, false, false, true, true, false, false, false, false, false, false, false] rfl rfl (A1_ HT_.out (by kernel_rfl)) (fun _ _ _ h => h) (Or.inl ⟨by rfl, ?_⟩) ?_ ?_
         rotate_left
         ·intro w'
          go_simp
          with_reducible rfl
         rotate_left
         ·exact pA
         refine pure_ (i := 10) (N := some 83) (v := ?_) (a' := ?_) #[true, false, true, false, false, false, true, true, false, false, true, false, false, false, false] rfl rfl (A1_ HT_.out (by kernel_rfl)) (fun _ _ _ h => h) (Or.inl ⟨by rfl, ?_⟩) ?_ ?_
         rotate_left
         ·intro w'
          go_simp
          with_reducible rfl
         rotate_left
         ·exact pA
         refine pure_ (i := 11) (N := some 84) (v := ?_) (a' := ?_) #[true, false, true, false, false, false, true, true, false, false, true, true, false, false, false] rfl rfl (A1_ HT_.out (by kernel_rfl)) (fun _ _ _ h => h) (Or.inl ⟨by rfl, ?_⟩) ?_ ?_
         rotate_left
         ·intro w'
          go_simp
          with_reducible rfl
         rotate_left
         ·exact pA
         refine take_ (i := 1) (N := some 74) (v := ?_) (a' := ?_) #[true, true, true, false, false, false, true, true, false, false, true, true, false, false, false] rfl rfl (B1_ HT_.out HW_.out (by kernel_rfl)) (fun _ _ _ h => h) (Or.inl ⟨by rfl, ?_⟩) hHeld ?_ ?_
         rotate_left
         ·rintro w' ⟨s0, s1, s2, s3, s4, s5, s6, s7, s8, s9, s10, s11⟩
          go_simp
          with_reducible rfl
         rotate_left
         ·exact pA
         refine pure_ (i := 3) (N := some 76) (v := ?_) (a' := ?_) #[true, true, true, true, false, false, true, true, false, false, true, true, false, false, false] rfl rfl (A1_ HT_.out (by kernel_rfl)) (fun _ _ _ h => h) (Or.inl ⟨by rfl, ?_⟩) ?_ ?_
         rotate_left
         ·intro w'
          go_simp
          with_reducible rfl
         rotate_left
         ·exact pA
         refine take_ (i := 4) (N := some 77) (v := ?_) (a' := ?_) #[true, true, true, true, true, false, true, true, false, false, true, true, false, false, false] rfl rfl (B1_ HT_.out HW_.out (by kernel_rfl)) (fun _ _ _ h => h) (Or.inl ⟨by rfl, ?_⟩) hHeld ?_ ?_
         rotate_left
         ·rintro w' ⟨s0, s1, s2, s3, s4, s5, s6, s7, s8, s9, s10, s11⟩
          go_simp
          with_reducible rfl
         rotate_left
         ·exact pA
         refine pure_ (i := 5) (N := some 78) (v := ?_) (a' := ?_) #[true, true, true, true, true, true, true, true, false, false, true, true, false, false, false] rfl rfl (A1_ HT_.out (by kernel_rfl)) (fun _ _ _ h => h) (Or.inl ⟨by rfl, ?_⟩) ?_ ?_
         rotate_left
         ·intro w'
          go_simp
          with_reducible rfl
         rotate_left
         ·exact pA
         refine take_ (i := 8) (N := some 81) (v := ?_) (a' := ?_) #[true, true, true, true, true, true, true, true, true, false, true, true, false, false, false] rfl rfl (B1_ HT_.out HW_.out (by kernel_rfl)) (fun _ _ _ h => h) (Or.inl ⟨by rfl, ?_⟩) hHeld ?_ ?_
         rotate_left
         ·rintro w' ⟨s0, s1, s2, s3, s4, s5, s6, s7, s8, s9, s10, s11⟩
          go_simp
          with_reducible rfl
         rotate_left
         ·exact pA
         refine pure_ (i := 9) (N := some 82) (v := ?_) (a' := ?_) #[true, true, true, true, true, true, true, true, true, true, true, true, false, false, false] rfl rfl (A1_ HT_.out (by kernel_rfl)) (fun _ _ _ h => h) (Or.inl ⟨by rfl, ?_⟩) ?_ ?_
         rotate_left
         ·intro w'
          go_simp
          with_reducible rfl
         rotate_left
         ·exact pA
         refine take_ (i := 12) (N := some 85) (v := ?_) (a' := ?_) #[true, true, true, true, true, true, true, true, true, true, true, true, true, false, false] rfl rfl (B1_ HT_.out HW_.out (by kernel_rfl)) (fun _ _ _ h => h) (Or.inl ⟨by rfl, ?_⟩) hHeld ?_ ?_
         rotate_left
         ·rintro w' ⟨s0, s1, s2, s3, s4, s5, s6, s7, s8, s9, s10, s11⟩
          go_simp
          with_reducible rfl
         rotate_left
         ·exact pA
         refine pure_ (i := 13) (N := some 86) (v := ?_) (a' := ?_) #[true, true, true, true, true, true, true, true, true, true, true, true, true, true, false] rfl rfl (A1_ HT_.out (by kernel_rfl)) (fun _ _ _ h => h) (Or.inl ⟨by rfl, ?_⟩) ?_ ?_
         rotate_left
         ·intro w'
          go_simp
          with_reducible rfl
         rotate_left
         ·exact pA
         refine pure_ (i := 14) (N := some 87) (v := ?_) (a' := ?_) #[true, true, true, true, true, true, true, true, true, true, true, true, true, true, true] rfl rfl (A1_ HT_.out (by kernel_rfl)) (fun _ _ _ h => h) (Or.inl ⟨by rfl, ?_⟩) ?_ ?_
         rotate_left
         ·intro w'
          go_simp
          with_reducible rfl
         rotate_left
         ·exact pA
         refine done_ (done_of HT_.out (by kernel_rfl)) ?_
         try go_wp2
         go_ret
         exact ⟨by first | rfl | (simp [errW_none, errW_some] <;> rfl) | (simp [*, errW_none, errW_some] <;> rfl), by exact lB HB.out⟩
       ·rw [if_neg c34] at H
        exact absurd H (by simp)
      ·rw [if_neg c33] at H
       have ft : decide (aC < (ac.length : Int)) = false := decide_eq_false c33
       clear c33
       have H' := A_.mk H
       clear H
       have ga : wr.cell? ⟨ab, 0, none⟩ = some (.int .i64 ag) := (D_ aa.out 0).trans rfl
       have gb : wr.cell? ⟨ab, 1, none⟩ = some (.int .i64 al) := (D_ aa.out 1).trans rfl
       have gc : wr.cell? ⟨ab, 2, none⟩ = some (.int .i64 ak) := (D_ aa.out 2).trans rfl
       have gd : wr.cell? ⟨ab, 3, none⟩ = some (.int .i64 aj) := (D_ aa.out 3).trans rfl
       have ge : wr.cell? ⟨ab, 4, none⟩ = some (.int .i64 ai) := (D_ aa.out 4).trans rfl
       have gf : wr.cell? ⟨ab, 5, none⟩ = some (.int .i64 ah) := (D_ aa.out 5).trans rfl
       have gg : wr.cell? ⟨ab, 6, none⟩ = some (.int .i64 af) := (D_ aa.out 6).trans rfl
       have gh : wr.cell? ⟨ab, 7, none⟩ = some (.int .i64 ae) := (D_ aa.out 7).trans rfl
       have gi : wr.cell? ⟨ab, 8, none⟩ = some (.slice aB ad.length ay) := (D_ aa.out 8).trans rfl
       have gj : wr.cell? ⟨ab, 9, none⟩ = some (.slice av am.length aw) := (D_ aa.out 9).trans rfl
       have fk : wr.cell? ⟨ab, 10, none⟩ = some (.slice ar ac.length ap) := (D_ aa.out 10).trans rfl
       have gl := B_ aa.out 0
       have gm := B_ aa.out 1
       have gn := B_ aa.out 2
       have gp := B_ aa.out 3
       have gq := B_ aa.out 4
       have gr := B_ aa.out 5
       have gs := B_ aa.out 6
       have gt := B_ aa.out 7
       have gu := B_ aa.out 8
       have gv := B_ aa.out 9
       have fl := B_ aa.out 10
       go_wp2
       go_loopg [4] k2 (fun kq v4 w' => ∃ (an : Int), v4 = .int .i64 an ∧ A_ (pochoirref30_May.l1 kq an ag al ak aj ai ah af ae ad am ac = some r) ∧ A_ (kq ≤ k2) ∧ A_ (w'.heap[ab]? = some (.cells #[.int .i64 ag, .int .i64 al, .int .i64 ak, .int .i64 aj, .int .i64 ai, .int .i64 ah, .int .i64 af, .int .i64 ae, (.slice aB ad.length ay), (.slice av am.length aw), (.slice ar ac.length ap)] 28 (0, 0))) ∧ A_ (Below w.heap.size w w'))
       case atStart => exact ⟨(0), (by first | rfl | (simp; done) | (simp [*]; done)), H', ⟨Nat.le_refl _⟩, ⟨by refine kB ?_; exact aa.out⟩, ⟨by exact lB HB.out⟩⟩
       case round =>
        clear H'
        try clear p2
        try clear q2
        try clear h3
        try clear c3
        try clear p6
        try clear p27
        try clear q27
        try clear h0
        try clear c33
        try clear ft
        try clear c34
        try clear gB
        try clear c35
        try clear fu
        try clear fv
        try clear bK
        try clear bV
        try clear bW
        try clear bp
        try clear bX
        try clear bY
        try clear bZ
        try clear b0
        try clear b1
        try clear b2
        try clear b3
        try clear b4
        try clear cf
        try clear cg
        try clear br
        try clear ch
        try clear ci
        try clear cj
        try clear ck
        try clear cl
        try clear cm
        try clear cn
        try clear co
        try clear cA
        try clear cB
        try clear bu
        try clear cC
        try clear cD
        try clear cE
        try clear cF
        try clear cG
        try clear cH
        try clear cI
        try clear cJ
        try clear cU
        try clear cV
        try clear bw
        try clear cW
        try clear cX
        try clear cY
        try clear cZ
        try clear c0
        try clear c4
        try clear c6
        try clear c8
        try clear dk
        try clear dl
        try clear bz
        try clear dm
        try clear dn
        try clear dp
        try clear dq
        try clear dr
        try clear dt
        try clear du
        try clear dv
        try clear dG
        try clear dH
        try clear bB
        try clear dI
        try clear dJ
        try clear dK
        try clear dL
        try clear dM
        try clear dN
        try clear dO
        try clear dP
        try clear d0
        try clear d1
        try clear bD
        try clear d2
        try clear d3
        try clear d4
        try clear d5
        try clear d6
        try clear d7
        try clear d8
        try clear d9
        try clear ek
        try clear el
        try clear bF
        try clear em
        try clear en
        try clear eo
        try clear ep
        try clear eq
        try clear er
        try clear es
        try clear et
        try clear eE
        try clear eF
        try clear bH
        try clear eG
        try clear eH
        try clear eI
        try clear eJ
        try clear eK
        try clear eL
        try clear eM
        try clear eN
        try clear fw
        try clear fx
        try clear fg
        try clear fy
        try clear fz
        try clear fA
        try clear fB
        try clear fC
        try clear fD
        try clear fE
        try clear fF
        try clear fQ
        try clear fR
        try clear fi
        try clear fS
        try clear fT
        try clear fU
        try clear fV
        try clear fW
        try clear fX
        try clear fY
        try clear fZ
        try clear ga
        try clear gb
        try clear fk
        try clear gc
        try clear gd
        try clear ge
        try clear gf
        try clear gg
        try clear gh
        try clear gi
        try clear gj
        try clear bL
        try clear bM
        try clear bo
        try clear bN
        try clear bO
        try clear bP
        try clear bQ
        try clear bR
        try clear bS
        try clear bT
        try clear bU
        try clear b5
        try clear b6
        try clear bq
        try clear b7
        try clear b8
        try clear b9
        try clear ca
        try clear cb
        try clear cc
        try clear cd
        try clear ce
        try clear cp
        try clear cq
        try clear bs
        try clear cr
        try clear ct
        try clear cu
        try clear cv
        try clear cw
        try clear cx
        try clear cy
        try clear cz
        try clear cK
        try clear cL
        try clear bv
        try clear cM
        try clear cN
        try clear cO
        try clear cP
        try clear cQ
        try clear cR
        try clear cS
        try clear cT
        try clear da
        try clear db
        try clear bx
        try clear dc
        try clear dd
        try clear de
        try clear df
        try clear dg
        try clear dh
        try clear di
        try clear dj
        try clear dw
        try clear dx
        try clear bA
        try clear dy
        try clear dz
        try clear dA
        try clear dB
        try clear dC
        try clear dD
        try clear dE
        try clear dF
        try clear dQ
        try clear dR
        try clear bC
        try clear dS
        try clear dT
        try clear dU
        try clear dV
        try clear dW
        try clear dX
        try clear dY
        try clear dZ
        try clear ea
        try clear eb
        try clear bE
        try clear ec
        try clear ed
        try clear ee
        try clear ef
        try clear eg
        try clear eh
        try clear ei
        try clear ej
        try clear eu
        try clear ev
        try clear bG
        try clear ew
        try clear ex
        try clear ey
        try clear ez
        try clear eA
        try clear eB
        try clear eC
        try clear eD
        try clear eO
        try clear eP
        try clear bI
        try clear eQ
        try clear eR
        try clear eS
        try clear eT
        try clear eU
        try clear eV
        try clear eW
        try clear eX
        try clear fG
        try clear fH
        try clear fh
        try clear fI
        try clear fJ
        try clear fK
        try clear fL
        try clear fM
        try clear fN
        try clear fO
        try clear fP
        try clear f0
        try clear f1
        try clear fj
        try clear f2
        try clear f3
        try clear f4
        try clear f5
        try clear f6
        try clear f7
        try clear f8
        try clear f9
        try clear gl
        try clear gm
        try clear fl
        try clear gn
        try clear gp
        try clear gq
        try clear gr
        try clear gs
        try clear gt
        try clear gu
        try clear gv
        try clear aE
        try clear p2
        try clear p278
        try clear q278
        obtain ⟨an, rfl, HA, HK3, aa, HB⟩ := hrel
        cases gk with
        | zero => exact absurd HA.out (by simp [pochoirref30_May.l1])
        | succ k3 =>
         have H := HA.out
         clear HA
         simp only [pochoirref30_May.l1] at H
         by_cases c41 : an < (ad.length : Int)
         ·rw [if_pos c41] at H
          have gC : decide (an < (ad.length : Int)) = true := decide_eq_true c41
          clear c41
          by_cases c42 : 0 ≤ an
          ·rw [if_pos c42] at H
           have hW : decide (0 ≤ an) = true := decide_eq_true c42
           clear c42
           replace H := Option.bind_eq_some_iff.mp H
           obtain ⟨fa, A430, H⟩ := H
           replace H : (if fa = true then (pochoirref30_May.l1 k3 (wrap64 (an + 1)) ag al ak aj ai ah af ae ad am ac) else (some false)) = some r := H
           have A43 := A_.mk A430
           clear A430
           by_cases c44 : fa = true
           ·subst c44
            have H1 : (pochoirref30_May.l1 k3 (wrap64 (an + 1)) ag al ak aj ai ah af ae ad am ac) = some r := by rw [if_pos rfl] at H; exact H
            clear H
            have H := H1
            clear H1
            have H' := A_.mk H
            clear H
            have gL : wr.cell? ⟨ab, 0, none⟩ = some (.int .i64 ag) := (D_ aa.out 0).trans rfl
            have gM : wr.cell? ⟨ab, 1, none⟩ = some (.int .i64 al) := (D_ aa.out 1).trans rfl
            have gN : wr.cell? ⟨ab, 2, none⟩ = some (.int .i64 ak) := (D_ aa.out 2).trans rfl
            have gO : wr.cell? ⟨ab, 3, none⟩ = some (.int .i64 aj) := (D_ aa.out 3).trans rfl
            have gP : wr.cell? ⟨ab, 4, none⟩ = some (.int .i64 ai) := (D_ aa.out 4).trans rfl
            have gQ : wr.cell? ⟨ab, 5, none⟩ = some (.int .i64 ah) := (D_ aa.out 5).trans rfl
            have gR : wr.cell? ⟨ab, 6, none⟩ = some (.int .i64 af) := (D_ aa.out 6).trans rfl
            have gS : wr.cell? ⟨ab, 7, none⟩ = some (.int .i64 ae) := (D_ aa.out 7).trans rfl
            have gT : wr.cell? ⟨ab, 8, none⟩ = some (.slice aB ad.length ay) := (D_ aa.out 8).trans rfl
            have gU : wr.cell? ⟨ab, 9, none⟩ = some (.slice av am.length aw) := (D_ aa.out 9).trans rfl
            have gF : wr.cell? ⟨ab, 10, none⟩ = some (.slice ar ac.length ap) := (D_ aa.out 10).trans rfl
            have gV := B_ aa.out 0
            have gW := B_ aa.out 1
            have gX := B_ aa.out 2
            have gY := B_ aa.out 3
            have gZ := B_ aa.out 4
            have g0 := B_ aa.out 5
            have g1 := B_ aa.out 6
            have g2 := B_ aa.out 7
            have g3 := B_ aa.out 8
            have g4 := B_ aa.out 9
            have gG := B_ aa.out 10
            try go_wp2
            have aZ := A_.mk (Y_ aa.out)
            have ba := A_.mk (T_ HB.out)
            clear aa
            clear HB
            have aa := aZ
            have HB := ba
            clear aZ ba
            have p279 : 0 ≤ (an : Int) := of_decide_eq_true (by first | (with_reducible assumption) | assumption)
            have q279 : an < (ad.length : Int) := of_decide_eq_true (by first | (with_reducible assumption) | assumption)
            obtain ⟨ad279, e279, aF, aG, aH, aI, aJ, aK, aL, aM⟩ := at_T54 fr.out an p279 q279
            have aP := aM
            have aQ := aL
            have aR := aK
            have aS := aJ
            have aT := aI
            have aU := aH
            have aV := aG
            have aW := aF
            cases e279
            replace aF := (HB.out.cell (World.block_lt_of_cell? w _ aF)).trans aF
            replace aG := (HB.out.cell (World.block_lt_of_cell? w _ aG)).trans aG
            replace aH := (HB.out.cell (World.block_lt_of_cell? w _ aH)).trans aH
            replace aI := (HB.out.cell (World.block_lt_of_cell? w _ aI)).trans aI
            replace aJ := (HB.out.cell (World.block_lt_of_cell? w _ aJ)).trans aJ
            replace aK := (HB.out.cell (World.block_lt_of_cell? w _ aK)).trans aK
            replace aL := (HB.out.cell (World.block_lt_of_cell? w _ aL)).trans aL
            replace aM := (HB.out.cell (World.block_lt_of_cell? w _ aM)).trans aM
            replace p279 := eq_true p279
            replace q279 := eq_true q279
            refine start_ (n := 12) (S := fun w' => w'.cell? ⟨ab, 0, none⟩ = some (.int .i64 ag) ∧ w'.cell? ⟨ab, 1, none⟩ = some (.int .i64 al) ∧ w'.cell? ⟨ab, 2, none⟩ = some (.int .i64 ak) ∧ w'.cell? ⟨ab, 3, none⟩ = some (.int .i64 aj) ∧ w'.cell? ⟨ab, 4, none⟩ = some (.int .i64 ai) ∧ w'.cell? ⟨ab, 5, none⟩ = some (.int .i64 ah) ∧ w'.cell? ⟨ab, 6, none⟩ = some (.int .i64 af) ∧ w'.cell? ⟨ab, 7, none⟩ = some (.int .i64 ae) ∧ w'.cell? ⟨ab, 8, none⟩ = some (.slice (some ad279) ad.length ay) ∧ w'.cell? ⟨ab, 9, none⟩ = some (.slice av am.length aw) ∧ w'.cell? ⟨ab, 10, none⟩ = some (.slice ar ac.length ap) ∧ w'.cell? (ad279.add ((an).toNat * 8)) = some (.int .i64 ((Z_ ad an).f0)) ∧ w'.cell? ⟨(ad279.add ((an).toNat * 8)).block, (ad279.add ((an).toNat * 8)).off + 1, none⟩ = some (.int .i64 ((Z_ ad an).f1.f0)) ∧ w'.cell? ⟨(ad279.add ((an).toNat * 8)).block, (ad279.add ((an).toNat * 8)).off + 2, none⟩ = some (.int .i64 ((Z_ ad an).f1.f1)) ∧ w'.cell? ⟨(ad279.add ((an).toNat * 8)).block, (ad279.add ((an).toNat * 8)).off + 3, none⟩ = some (.int .i64 ((Z_ ad an).f1.f2)) ∧ w'.cell? ⟨(ad279.add ((an).toNat * 8)).block, (ad279.add ((an).toNat * 8)).off + 4, none⟩ = some (.int .i64 ((Z_ ad an).f1.f3)) ∧ w'.cell? ⟨(ad279.add ((an).toNat * 8)).block, (ad279.add ((an).toNat * 8)).off + 5, none⟩ = some (.int .i64 ((Z_ ad an).f2.f0)) ∧ w'.cell? ⟨(ad279.add ((an).toNat * 8)).block, (ad279.add ((an).toNat * 8)).off + 6, none⟩ = some (.int .i64 ((Z_ ad an).f2.f1)) ∧ w'.cell? ⟨(ad279.add ((an).toNat * 8)).block, (ad279.add ((an).toNat * 8)).off + 7, none⟩ = some (.int .i64 ((Z_ ad an).f2.f2))) (ds := []) #[false, false, false, false, false, false, false, false, false, false, false, false] (by kernel_rfl) rfl rfl ⟨(D_ aa.out 0).trans rfl, (D_ aa.out 1).trans rfl, (D_ aa.out 2).trans rfl, (D_ aa.out 3).trans rfl, (D_ aa.out 4).trans rfl, (D_ aa.out 5).trans rfl, (D_ aa.out 6).trans rfl, (D_ aa.out 7).trans rfl, (D_ aa.out 8).trans rfl, (D_ aa.out 9).trans rfl, (D_ aa.out 10).trans rfl, ((HB.out.cell (World.block_lt_of_cell? w _ aW)).trans aW), ((HB.out.cell (World.block_lt_of_cell? w _ aV)).trans aV), ((HB.out.cell (World.block_lt_of_cell? w _ aU)).trans aU), ((HB.out.cell (World.block_lt_of_cell? w _ aT)).trans aT), ((HB.out.cell (World.block_lt_of_cell? w _ aS)).trans aS), ((HB.out.cell (World.block_lt_of_cell? w _ aR)).trans aR), ((HB.out.cell (World.block_lt_of_cell? w _ aQ)).trans aQ), ((HB.out.cell (World.block_lt_of_cell? w _ aP)).trans aP)⟩ (fun hHeld => ?_); refine with_tabW pochoirref30_May.tab11 pochoirref30_May.bits11 (fun HT_ HW_ => ?_)
            generalize wr.drew = h4 at aa HB aF aG aH aI aJ aK aL aM hHeld ⊢
            refine pure_ (i := 0) (N := some 95) (v := ?_) (a' := ?_) #[true, false, false, false, false, false, false, false, false, false, false, false] rfl rfl (A1_ HT_.out (by kernel_rfl)) (fun _ _ _ h => h) (Or.inl ⟨by rfl, ?_⟩) ?_ ?_
            rotate_left
            ·intro w'
             go_simp
             with_reducible rfl
            rotate_left
            ·exact pA
            refine pure_ (i := 2) (N := some 97) (v := ?_) (a' := ?_) #[true, false, true, false, false, false, false, false, false, false, false, false] rfl rfl (A1_ HT_.out (by kernel_rfl)) (fun _ _ _ h => h) (Or.inl ⟨by rfl, ?_⟩) ?_ ?_
            rotate_left
            ·intro w'
             go_simp
             with_reducible rfl
            rotate_left
            ·exact pA
            refine pure_ (i := 5) (N := some 100) (v := ?_) (a' := ?_) #[true, false, true, false, false, true, false, false, false, false, false, false] rfl rfl (A1_ HT_.out (by kernel_rfl)) (fun _ _ _ h => h) (Or.inl ⟨by rfl, ?_⟩) ?_ ?_
            rotate_left
            ·intro w'
             go_simp
             with_reducible rfl
            rotate_left
            ·exact pA
            refine pure_ (i := 7) (N := some 102) (v := ?_) (a' := ?_) #[true, false, true, false, false, true, false, true, false, false, false, false] rfl rfl (A1_ HT_.out (by kernel_rfl)) (fun _ _ _ h => h) (Or.inl ⟨by rfl, ?_⟩) ?_ ?_
            rotate_left
            ·intro w'
             go_simp
             with_reducible rfl
            rotate_left
            ·exact pA
            refine take_ (i := 1) (N := some 96) (v := ?_) (a' := ?_) #[true, true, true, false, false, true, false, true, false, false, false, false] rfl rfl (B1_ HT_.out HW_.out (by kernel_rfl)) (fun _ _ _ h => h) (Or.inl ⟨by rfl, ?_⟩) hHeld ?_ ?_
            rotate_left
            ·rintro w' ⟨s0, s1, s2, s3, s4, s5, s6, s7, s8, s9, s10, s11, s12, s13, s14, s15, s16, s17, s18⟩
             go_simp
             with_reducible rfl
            rotate_left
            ·exact pA
            refine pure_ (i := 3) (N := some 98) (v := ?_) (a' := ?_) #[true, true, true, true, false, true, false, true, false, false, false, false] rfl rfl (A1_ HT_.out (by kernel_rfl)) (fun _ _ _ h => h) (Or.inl ⟨by rfl, ?_⟩) ?_ ?_
            rotate_left
            ·intro w'
             go_simp
             with_reducible rfl
            rotate_left
            ·exact pA
            refine take_ (i := 4) (N := some 99) (v := ?_) (a' := ?_) #[true, true, true, true, true, true, false, true, false, false, false, false] rfl rfl (B1_ HT_.out HW_.out (by kernel_rfl)) (fun _ _ _ h => h) (Or.inl ⟨by rfl, ?_⟩) hHeld ?_ ?_
            rotate_left
            ·rintro w' ⟨s0, s1, s2, s3, s4, s5, s6, s7, s8, s9, s10, s11, s12, s13, s14, s15, s16, s17, s18⟩
             go_simp
             with_reducible rfl
            rotate_left
            ·exact pA
            refine take_ (i := 6) (N := some 101) (v := ?_) (a' := ?_) #[true, true, true, true, true, true, true, true, false, false, false, false] rfl rfl (B1_ HT_.out HW_.out (by kernel_rfl)) (fun _ _ _ h => h) (Or.inl ⟨by rfl, ?_⟩) hHeld ?_ ?_
            rotate_left
            ·rintro w' ⟨s0, s1, s2, s3, s4, s5, s6, s7, s8, s9, s10, s11, s12, s13, s14, s15, s16, s17, s18⟩
             go_simp
             with_reducible rfl
            rotate_left
            ·exact pA
            refine take_ (i := 8) (N := some 103) (v := ?_) (a' := ?_) #[true, true, true, true, true, true, true, true, true, false, false, false] rfl rfl (B1_ HT_.out HW_.out (by kernel_rfl)) (fun _ _ _ h => h) (Or.inl ⟨by rfl, ?_⟩) hHeld ?_ ?_
            rotate_left
            ·rintro w' ⟨s0, s1, s2, s3, s4, s5, s6, s7, s8, s9, s10, s11, s12, s13, s14, s15, s16, s17, s18⟩
             go_simp
             with_reducible rfl
            rotate_left
            ·exact pA
            refine pure_ (i := 9) (N := some 104) (v := ?_) (a' := ?_) #[true, true, true, true, true, true, true, true, true, true, false, false] rfl rfl (A1_ HT_.out (by kernel_rfl)) (fun _ _ _ h => h) (Or.inl ⟨by rfl, ?_⟩) ?_ ?_
            rotate_left
            ·intro w'
             go_simp
             with_reducible rfl
            rotate_left
            ·exact pA
            refine one_ (i := 10) (N := some 105) #[true, true, true, true, true, true, true, true, true, true, true, false] rfl rfl (one_of HT_.out (by kernel_rfl)) (by decide) (fun K hK => ?_)
            refine goes_ Tryd.func27 (by kernel_rfl) rfl #[.agg #[.int .i64 ((Z_ ad an).f0), .int .i64 ((Z_ ad an).f1.f0), .int .i64 ((Z_ ad an).f1.f1), .int .i64 ((Z_ ad an).f1.f2), .int .i64 ((Z_ ad an).f1.f3), .int .i64 ((Z_ ad an).f2.f0), .int .i64 ((Z_ ad an).f2.f1), .int .i64 ((Z_ ad an).f2.f2)], .agg #[.int .i64 af, .int .i64 ae], .int .i64 (ac.length : Int)] (by rfl) rfl rfl (by (try simp only [List.map_toArray, List.map_cons, List.map_nil]); first | done | rfl | (simp only [List.length_drop, List.length_take]; rfl)) ?_
            with_reducible refine (pochoirref30_entry.calls k3 ((Z_ ad an).f0) ((Z_ ad an).f1.f0) ((Z_ ad an).f1.f1) ((Z_ ad an).f1.f2) ((Z_ ad an).f1.f3) ((Z_ ad an).f2.f0) ((Z_ ad an).f2.f1) ((Z_ ad an).f2.f2) af ae (ac.length : Int) true _ A43.out).mono ?_
            rintro e h5 ⟨rfl, hb⟩
            refine ⟨_, rfl, ?_⟩
            have aZ := A_.mk (F_ (g := ab) (o := .cells #[.int .i64 ag, .int .i64 al, .int .i64 ak, .int .i64 aj, .int .i64 ai, .int .i64 ah, .int .i64 af, .int .i64 ae, .slice (some ad279) ad.length ay, .slice av am.length aw, .slice ar ac.length ap] 28 (0, 0)) (by refine kB ?_; exact aa.out) hb)
            have ba := A_.mk (E_ (by exact lB HB.out) hb)
            clear aa
            clear HB
            have aa := aZ
            have HB := ba
            clear aZ ba
            (try clear hb)
            (try clear hT)
            (try clear hk)
            (try clear hi)
            refine hK.out _ _ ⟨(D_ aa.out 0).trans rfl, (D_ aa.out 1).trans rfl, (D_ aa.out 2).trans rfl, (D_ aa.out 3).trans rfl, (D_ aa.out 4).trans rfl, (D_ aa.out 5).trans rfl, (D_ aa.out 6).trans rfl, (D_ aa.out 7).trans rfl, (D_ aa.out 8).trans rfl, (D_ aa.out 9).trans rfl, (D_ aa.out 10).trans rfl, ((HB.out.cell (World.block_lt_of_cell? w _ aW)).trans aW), ((HB.out.cell (World.block_lt_of_cell? w _ aV)).trans aV), ((HB.out.cell (World.block_lt_of_cell? w _ aU)).trans aU), ((HB.out.cell (World.block_lt_of_cell? w _ aT)).trans aT), ((HB.out.cell (World.block_lt_of_cell? w _ aS)).trans aS), ((HB.out.cell (World.block_lt_of_cell? w _ aR)).trans aR), ((HB.out.cell (World.block_lt_of_cell? w _ aQ)).trans aQ), ((HB.out.cell (World.block_lt_of_cell? w _ aP)).trans aP)⟩ (fun hHeld => ?_)
            clear hK K
            refine norm_ (a' := ?_) ?_ ?_
            rotate_left
            ·show Act.put _ (some 105) _ = _
             exact pA
            refine pure_ (i := 11) (N := some 106) (v := ?_) (a' := ?_) #[true, true, true, true, true, true, true, true, true, true, true, true] rfl rfl (A1_ HT_.out (by kernel_rfl)) (fun _ _ _ h => h) (Or.inl ⟨by rfl, ?_⟩) ?_ ?_
            rotate_left
            ·intro w'
             go_simp
             with_reducible rfl
            rotate_left
            ·exact pA
            refine done_ (done_of HT_.out (by kernel_rfl)) ?_
            try go_wp2
            go_roundg k3
            case measure => have := fs.out; have := HK2.out; have := HK3.out; omega
            case rel => exact ⟨(wrap64 (an + 1)), (by first | rfl | (simp; done) | (simp [*]; done)), H', ⟨by have := fs.out; have := HK2.out; have := HK3.out; omega⟩, ⟨by refine kB ?_; exact aa.out⟩, ⟨by exact lB HB.out⟩⟩
           ·replace c44 := Bool.eq_false_iff.mpr c44
            subst c44
            have H1 : (some false) = some r := by rw [if_neg (show ¬ (false = true) by decide)] at H; exact H
            clear H
            have H := H1
            clear H1
            obtain rfl := Option.some.inj H
            have g5 : wr.cell? ⟨ab, 0, none⟩ = some (.int .i64 ag) := (D_ aa.out 0).trans rfl
            have g6 : wr.cell? ⟨ab, 1, none⟩ = some (.int .i64 al) := (D_ aa.out 1).trans rfl
            have g7 : wr.cell? ⟨ab, 2, none⟩ = some (.int .i64 ak) := (D_ aa.out 2).trans rfl
            have g8 : wr.cell? ⟨ab, 3, none⟩ = some (.int .i64 aj) := (D_ aa.out 3).trans rfl
            have g9 : wr.cell? ⟨ab, 4, none⟩ = some (.int .i64 ai) := (D_ aa.out 4).trans rfl
            have ha : wr.cell? ⟨ab, 5, none⟩ = some (.int .i64 ah) := (D_ aa.out 5).trans rfl
            have hc : wr.cell? ⟨ab, 6, none⟩ = some (.int .i64 af) := (D_ aa.out 6).trans rfl
            have he : wr.cell? ⟨ab, 7, none⟩ = some (.int .i64 ae) := (D_ aa.out 7).trans rfl
            have hf : wr.cell? ⟨ab, 8, none⟩ = some (.slice aB ad.length ay) := (D_ aa.out 8).trans rfl
            have hh : wr.cell? ⟨ab, 9, none⟩ = some (.slice av am.length aw) := (D_ aa.out 9).trans rfl
            have gH : wr.cell? ⟨ab, 10, none⟩ = some (.slice ar ac.length ap) := (D_ aa.out 10).trans rfl
            have hj := B_ aa.out 0
            have hl := B_ aa.out 1
            have hm := B_ aa.out 2
            have hn := B_ aa.out 3
            have ho := B_ aa.out 4
            have hq := B_ aa.out 5
            have hs := B_ aa.out 6
            have ht := B_ aa.out 7
            have hu := B_ aa.out 8
            have hv := B_ aa.out 9
            have gI := B_ aa.out 10
            try go_wp2
            have aZ := A_.mk (Y_ aa.out)
            have ba := A_.mk (T_ HB.out)
            clear aa
            clear HB
            have aa := aZ
            have HB := ba
            clear aZ ba
            have p279 : 0 ≤ (an : Int) := of_decide_eq_true (by first | (with_reducible assumption) | assumption)
            have q279 : an < (ad.length : Int) := of_decide_eq_true (by first | (with_reducible assumption) | assumption)
            obtain ⟨ad279, e279, aF, aG, aH, aI, aJ, aK, aL, aM⟩ := at_T54 fr.out an p279 q279
            have aP := aM
            have aQ := aL
            have aR := aK
            have aS := aJ
            have aT := aI
            have aU := aH
            have aV := aG
            have aW := aF
            cases e279
            replace aF := (HB.out.cell (World.block_lt_of_cell? w _ aF)).trans aF
            replace aG := (HB.out.cell (World.block_lt_of_cell? w _ aG)).trans aG
            replace aH := (HB.out.cell (World.block_lt_of_cell? w _ aH)).trans aH
            replace aI := (HB.out.cell (World.block_lt_of_cell? w _ aI)).trans aI
            replace aJ := (HB.out.cell (World.block_lt_of_cell? w _ aJ)).trans aJ
            replace aK := (HB.out.cell (World.block_lt_of_cell? w _ aK)).trans aK
            replace aL := (HB.out.cell (World.block_lt_of_cell? w _ aL)).trans aL
            replace aM := (HB.out.cell (World.block_lt_of_cell? w _ aM)).trans aM
            replace p279 := eq_true p279
            replace q279 := eq_true q279
            refine start_ (n := 12) (S := fun w' => w'.cell? ⟨ab, 0, none⟩ = some (.int .i64 ag) ∧ w'.cell? ⟨ab, 1, none⟩ = some (.int .i64 al) ∧ w'.cell? ⟨ab, 2, none⟩ = some (.int .i64 ak) ∧ w'.cell? ⟨ab, 3, none⟩ = some (.int .i64 aj) ∧ w'.cell? ⟨ab, 4, none⟩ = some (.int .i64 ai) ∧ w'.cell? ⟨ab, 5, none⟩ = some (.int .i64 ah) ∧ w'.cell? ⟨ab, 6, none⟩ = some (.int .i64 af) ∧ w'.cell? ⟨ab, 7, none⟩ = some (.int .i64 ae) ∧ w'.cell? ⟨ab, 8, none⟩ = some (.slice (some ad279) ad.length ay) ∧ w'.cell? ⟨ab, 9, none⟩ = some (.slice av am.length aw) ∧ w'.cell? ⟨ab, 10, none⟩ = some (.slice ar ac.length ap) ∧ w'.cell? (ad279.add ((an).toNat * 8)) = some (.int .i64 ((Z_ ad an).f0)) ∧ w'.cell? ⟨(ad279.add ((an).toNat * 8)).block, (ad279.add ((an).toNat * 8)).off + 1, none⟩ = some (.int .i64 ((Z_ ad an).f1.f0)) ∧ w'.cell? ⟨(ad279.add ((an).toNat * 8)).block, (ad279.add ((an).toNat * 8)).off + 2, none⟩ = some (.int .i64 ((Z_ ad an).f1.f1)) ∧ w'.cell? ⟨(ad279.add ((an).toNat * 8)).block, (ad279.add ((an).toNat * 8)).off + 3, none⟩ = some (.int .i64 ((Z_ ad an).f1.f2)) ∧ w'.cell? ⟨(ad279.add ((an).toNat * 8)).block, (ad279.add ((an).toNat * 8)).off + 4, none⟩ = some (.int .i64 ((Z_ ad an).f1.f3)) ∧ w'.cell? ⟨(ad279.add ((an).toNat * 8)).block, (ad279.add ((an).toNat * 8)).off + 5, none⟩ = some (.int .i64 ((Z_ ad an).f2.f0)) ∧ w'.cell? ⟨(ad279.add ((an).toNat * 8)).block, (ad279.add ((an).toNat * 8)).off + 6, none⟩ = some (.int .i64 ((Z_ ad an).f2.f1)) ∧ w'.cell? ⟨(ad279.add ((an).toNat * 8)).block, (ad279.add ((an).toNat * 8)).off + 7, none⟩ = some (.int .i64 ((Z_ ad an).f2.f2))) (ds := []) #[false, false, false, false, false, false, false, false, false, false, false, false] (by kernel_rfl) rfl rfl ⟨(D_ aa.out 0).trans rfl, (D_ aa.out 1).trans rfl, (D_ aa.out 2).trans rfl, (D_ aa.out 3).trans rfl, (D_ aa.out 4).trans rfl, (D_ aa.out 5).trans rfl, (D_ aa.out 6).trans rfl, (D_ aa.out 7).trans rfl, (D_ aa.out 8).trans rfl, (D_ aa.out 9).trans rfl, (D_ aa.out 10).trans rfl, ((HB.out.cell (World.block_lt_of_cell? w _ aW)).trans aW), ((HB.out.cell (World.block_lt_of_cell? w _ aV)).trans aV), ((HB.out.cell (World.block_lt_of_cell? w _ aU)).trans aU), ((HB.out.cell (World.block_lt_of_cell? w _ aT)).trans aT), ((HB.out.cell (World.block_lt_of_cell? w _ aS)).trans aS), ((HB.out.cell (World.block_lt_of_cell? w _ aR)).trans aR), ((HB.out.cell (World.block_lt_of_cell? w _ aQ)).trans aQ), ((HB.out.cell (World.block_lt_of_cell? w _ aP)).trans aP)⟩ (fun hHeld => ?_); refine with_tabW pochoirref30_May.tab11 pochoirref30_May.bits11 (fun HT_ HW_ => ?_)
            generalize wr.drew = h6 at aa HB aF aG aH aI aJ aK aL aM hHeld ⊢
            refine pure_ (i := 0) (N := some 95) (v := ?_) (a' := ?_) #[true, false, false, false, false, false, false, false, false, false, false, false] rfl rfl (A1_ HT_.out (by kernel_rfl)) (fun _ _ _ h => h) (Or.inl ⟨by rfl, ?_⟩) ?_ ?_
            rotate_left
            ·intro w'
             go_simp
             with_reducible rfl
            rotate_left
            ·exact pA
            refine pure_ (i := 2) (N := some 97) (v := ?_) (a' := ?_) #[true, false, true, false, false, false, false, false, false, false, false, false] rfl rfl (A1_ HT_.out (by kernel_rfl)) (fun _ _ _ h => h) (Or.inl ⟨by rfl, ?_⟩) ?_ ?_
            rotate_left
            ·intro w'
             go_simp
             with_reducible rfl
            rotate_left
            ·exact pA
            refine pure_ (i := 5) (N := some 100) (v := ?_) (a' := ?_) #[true, false, true, false, false, true, false, false, false, false, false, false] rfl rfl (A1_ HT_.out (by kernel_rfl)) (fun _ _ _ h => h) (Or.inl ⟨by rfl, ?_⟩) ?_ ?_
            rotate_left
            ·intro w'
             go_simp
             with_reducible rfl
            rotate_left
            ·exact pA
            refine pure_ (i := 7) (N := some 102) (v := ?_) (a' := ?_) #[true, false, true, false, false, true, false, true, false, false, false, false] rfl rfl (A1_ HT_.out (by kernel_rfl)) (fun _ _ _ h => h) (Or.inl ⟨by rfl, ?_⟩) ?_ ?_
            rotate_left
            ·intro w'
             go_simp
             with_reducible rfl
            rotate_left
            ·exact pA
            refine take_ (i := 1) (N := some 96) (v := ?_) (a' := ?_) #[true, true, true, false, false, true, false, true, false, false, false, false] rfl rfl (B1_ HT_.out HW_.out (by kernel_rfl)) (fun _ _ _ h => h) (Or.inl ⟨by rfl, ?_⟩) hHeld ?_ ?_
            rotate_left
            ·rintro w' ⟨s0, s1, s2, s3, s4, s5, s6, s7, s8, s9, s10, s11, s12, s13, s14, s15, s16, s17, s18⟩
             go_simp
             with_reducible rfl
            rotate_left
            ·exact pA
            refine pure_ (i := 3) (N := some 98) (v := ?_) (a' := ?_) #[true, true, true, true, false, true, false, true, false, false, false, false] rfl rfl (A1_ HT_.out (by kernel_rfl)) (fun _ _ _ h => h) (Or.inl ⟨by rfl, ?_⟩) ?_ ?_
            rotate_left
            ·intro w'
             go_simp
             with_reducible rfl
            rotate_left
            ·exact pA
            refine take_ (i := 4) (N := some 99) (v := ?_) (a' := ?_) #[true, true, true, true, true, true, false, true, false, false, false, false] rfl rfl (B1_ HT_.out HW_.out (by kernel_rfl)) (fun _ _ _ h => h) (Or.inl ⟨by rfl, ?_⟩) hHeld ?_ ?_
            rotate_left
            ·rintro w' ⟨s0, s1, s2, s3, s4, s5, s6, s7, s8, s9, s10, s11, s12, s13, s14, s15, s16, s17, s18⟩
             go_simp
             with_reducible rfl
            rotate_left
            ·exact pA
            refine take_ (i := 6) (N := some 101) (v := ?_) (a' := ?_) #[true, true, true, true, true, true, true, true, false, false, false, false] rfl rfl (B1_ HT_.out HW_.out (by kernel_rfl)) (fun _ _ _ h => h) (Or.inl ⟨by rfl, ?_⟩) hHeld ?_ ?_
            rotate_left
            ·rintro w' ⟨s0, s1, s2, s3, s4, s5, s6, s7, s8, s9, s10, s11, s12, s13, s14, s15, s16, s17, s18⟩
             go_simp
             with_reducible rfl
            rotate_left
            ·exact pA
            refine take_ (i := 8) (N := some 103) (v := ?_) (a' := ?_) #[true, true, true, true, true, true, true, true, true, false, false, false] rfl rfl (B1_ HT_.out HW_.out (by kernel_rfl)) (fun _ _ _ h => h) (Or.inl ⟨by rfl, ?_⟩) hHeld ?_ ?_
            rotate_left
            ·rintro w' ⟨s0, s1, s2, s3, s4, s5, s6, s7, s8, s9, s10, s11, s12, s13, s14, s15, s16, s17, s18⟩
             go_simp
             with_reducible rfl
            rotate_left
            ·exact pA
            refine pure_ (i := 9) (N := some 104) (v := ?_) (a' := ?_) #[true, true, true, true, true, true, true, true, true, true, false, false] rfl rfl (A1_ HT_.out (by kernel_rfl)) (fun _ _ _ h => h) (Or.inl ⟨by rfl, ?_⟩) ?_ ?_
            rotate_left
            ·intro w'
             go_simp
             with_reducible rfl
            rotate_left
            ·exact pA
            refine one_ (i := 10) (N := some 105) #[true, true, true, true, true, true, true, true, true, true, true, false] rfl rfl (one_of HT_.out (by kernel_rfl)) (by decide) (fun K hK => ?_)
            refine goes_ Tryd.func27 (by kernel_rfl) rfl #[.agg #[.int .i64 ((Z_ ad an).f0), .int .i64 ((Z_ ad an).f1.f0), .int .i64 ((Z_ ad an).f1.f1), .int .i64 ((Z_ ad an).f1.f2), .int .i64 ((Z_ ad an).f1.f3), .int .i64 ((Z_ ad an).f2.f0), .int .i64 ((Z_ ad an).f2.f1), .int .i64 ((Z_ ad an).f2.f2)], .agg #[.int .i64 af, .int .i64 ae], .int .i64 (ac.length : Int)] (by rfl) rfl rfl (by (try simp only [List.map_toArray, List.map_cons, List.map_nil]); first | done | rfl | (simp only [List.length_drop, List.length_take]; rfl)) ?_
            with_reducible refine (pochoirref30_entry.calls k3 ((Z_ ad an).f0) ((Z_ ad an).f1.f0) ((Z_ ad an).f1.f1) ((Z_ ad an).f1.f2) ((Z_ ad an).f1.f3) ((Z_ ad an).f2.f0) ((Z_ ad an).f2.f1) ((Z_ ad an).f2.f2) af ae (ac.length : Int) false _ A43.out).mono ?_
            rintro e h7 ⟨rfl, hb⟩
            refine ⟨_, rfl, ?_⟩
            have aZ := A_.mk (F_ (g := ab) (o := .cells #[.int .i64 ag, .int .i64 al, .int .i64 ak, .int .i64 aj, .int .i64 ai, .int .i64 ah, .int .i64 af, .int .i64 ae, .slice (some ad279) ad.length ay, .slice av am.length aw, .slice ar ac.length ap] 28 (0, 0)) (by refine kB ?_; exact aa.out) hb)
            have ba := A_.mk (E_ (by exact lB HB.out) hb)
            clear aa
            clear HB
            have aa := aZ
            have HB := ba
            clear aZ ba
            (try clear hb)
            (try clear hT)
            (try clear hk)
            (try clear hi)
            refine hK.out _ _ ⟨(D_ aa.out 0).trans rfl, (D_ aa.out 1).trans rfl, (D_ aa.out 2).trans rfl, (D_ aa.out 3).trans rfl, (D_ aa.out 4).trans rfl, (D_ aa.out 5).trans rfl, (D_ aa.out 6).trans rfl, (D_ aa.out 7).trans rfl, (D_ aa.out 8).trans rfl, (D_ aa.out 9).trans rfl, (D_ aa.out 10).trans rfl, ((HB.out.cell (World.block_lt_of_cell? w _ aW)).trans aW), ((HB.out.cell (World.block_lt_of_cell? w _ aV)).trans aV), ((HB.out.cell (World.block_lt_of_cell? w _ aU)).trans aU), ((HB.out.cell (World.block_lt_of_cell? w _ aT)).trans aT), ((HB.out.cell (World.block_lt_of_cell? w _ aS)).trans aS), ((HB.out.cell (World.block_lt_of_cell? w _ aR)).trans aR), ((HB.out.cell (World.block_lt_of_cell? w _ aQ)).trans aQ), ((HB.out.cell (World.block_lt_of_cell? w _ aP)).trans aP)⟩ (fun hHeld => ?_)
            clear hK K
            refine norm_ (a' := ?_) ?_ ?_
            rotate_left
            ·show Act.put _ (some 105) _ = _
             exact pA
            refine pure_ (i := 11) (N := some 106) (v := ?_) (a' := ?_) #[true, true, true, true, true, true, true, true, true, true, true, true] rfl rfl (A1_ HT_.out (by kernel_rfl)) (fun _ _ _ h => h) (Or.inl ⟨by rfl, ?_⟩) ?_ ?_
            rotate_left
            ·intro w'
             go_simp
             with_reducible rfl
            rotate_left
            ·exact pA
            refine done_ (done_of HT_.out (by kernel_rfl)) ?_
            try go_wp2
            go_ret
            exact ⟨by first | rfl | (simp [errW_none, errW_some] <;> rfl) | (simp [*, errW_none, errW_some] <;> rfl), by exact lB HB.out⟩
          ·rw [if_neg c42] at H
           exact absurd H (by simp)
         ·rw [if_neg c41] at H
          have gC : decide (an < (ad.length : Int)) = false := decide_eq_false c41
          clear c41
          replace H := Option.bind_eq_some_iff.mp H
          obtain ⟨fb, A510, H⟩ := H
          replace H : (some fb) = some r := H
          have A51 := A_.mk A510
          clear A510
          obtain rfl := Option.some.inj H
          have hw : wr.cell? ⟨ab, 0, none⟩ = some (.int .i64 ag) := (D_ aa.out 0).trans rfl
          have hx : wr.cell? ⟨ab, 1, none⟩ = some (.int .i64 al) := (D_ aa.out 1).trans rfl
          have hy : wr.cell? ⟨ab, 2, none⟩ = some (.int .i64 ak) := (D_ aa.out 2).trans rfl
          have hz : wr.cell? ⟨ab, 3, none⟩ = some (.int .i64 aj) := (D_ aa.out 3).trans rfl
          have hA : wr.cell? ⟨ab, 4, none⟩ = some (.int .i64 ai) := (D_ aa.out 4).trans rfl
          have hB : wr.cell? ⟨ab, 5, none⟩ = some (.int .i64 ah) := (D_ aa.out 5).trans rfl
          have hC : wr.cell? ⟨ab, 6, none⟩ = some (.int .i64 af) := (D_ aa.out 6).trans rfl
          have hD : wr.cell? ⟨ab, 7, none⟩ = some (.int .i64 ae) := (D_ aa.out 7).trans rfl
          have hE : wr.cell? ⟨ab, 8, none⟩ = some (.slice aB ad.length ay) := (D_ aa.out 8).trans rfl
          have hF : wr.cell? ⟨ab, 9, none⟩ = some (.slice av am.length aw) := (D_ aa.out 9).trans rfl
          have gJ : wr.cell? ⟨ab, 10, none⟩ = some (.slice ar ac.length ap) := (D_ aa.out 10).trans rfl
          have hG := B_ aa.out 0
          have hH := B_ aa.out 1
          have hI := B_ aa.out 2
          have hJ := B_ aa.out 3
          have hL := B_ aa.out 4
          have hM := B_ aa.out 5
          have hN := B_ aa.out 6
          have hO := B_ aa.out 7
          have hP := B_ aa.out 8
          have hQ := B_ aa.out 9
          have gK := B_ aa.out 10
          go_wp2_with (first | ((with_reducible refine P_ (f := 28) rfl ?_); refine R_ (some 112) rfl rfl Tryd.func28 (by kernel_rfl) rfl #[.slice av am.length aw, .int .i64 (ad.length : Int)] rfl (by (try simp only [List.map_toArray, List.map_cons, List.map_nil]); first | done | rfl | (simp only [List.length_drop, List.length_take]; rfl)) ?_; (with_reducible refine (pochoirref12_May.calls k3 _ _ am (ad.length : Int) fb _ ?side1 ?side2 A51.out).mono ?_); (case side1 => repeat (first | exact (Kd.C_below gz.out HB.out) | (with_reducible refine Kd.C_alloc ?_ _) | (with_reducible refine Kd.C_drewN ?_ _) | (with_reducible refine Kd.C_drew ?_))); (case side2 => exact gA.out); rintro e w' ⟨rfl, ⟨nd, rfl⟩⟩; refine ⟨_, rfl, ?_⟩))
          go_ret
          exact ⟨by first | rfl | (simp [errW_none, errW_some] <;> rfl) | (simp [*, errW_none, errW_some] <;> rfl), by exact lB HB.out⟩

end Go.Proofs.YtjcgmjhcaaaieaaDoor.Pr
