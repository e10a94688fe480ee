-- printed by a program of this session's (wip/mp.sh), out of the translation; the texts of its folder 'given' are typed by hand
-- shortened (wip/short.py)
import Derived.Test.YtjcgmjhcaaaieaaDoorPr0
import Derived.Test.YtjcgmjhcaaaieaaDoorPr14
import Derived.Test.YtjcgmjhcaaaieaaDoorPr15
import Derived.Test.YtjcgmjhcaaaieaaDoorPr29
import Derived.Test.YtjcgmjhcaaaieaaDoorPr30
import Derived.Test.YtjcgmjhcaaaieaaDoorPr37
import Derived.Test.YtjcgmjhcaaaieaaDoorPr38
namespace Go.Proofs.YtjcgmjhcaaaieaaDoor.Pr
open Go.RowKit Go.Proofs.YtjcgmjhcaaaieaaDoorW.PrintWords Go.Proofs.YtjcgmjhcaaaieaaDoorW.PrintLast Go.Proofs.YtjcgmjhcaaaieaaDoorW.PrintMore
attribute [local go_sem] max2_int min2_int max_two min_two max_three min_three max_four min_four   -- for this text's walks alone
attribute [local go_sem high] eqA32
set_option linter.unusedVariables false
set_option linter.unusedSimpArgs false

/-! ### pochoirlaw32_SampleAt: function 3 -/
def pochoirlaw32_SampleAt.g (k : Nat) (ah : Int) (ai : Int) (aj : Int) (ak : Int) (al : Int) (am : Int) (an : Int) (ao : Int) (ae : List (S54)) (af : List (S84)) (ad : List ByteArray) (au : Int) (av : Int) (aw : Int) : Option (Bool) := (pochoirlaw32_awake.f k).bind fun bu => (if bu = true then ((pochoirlaw30_Few.f k ah ai aj ak al am an ao ae af ad).bind fun bg => (if bg = true then ((sample_At.f k ah ai aj ak al am an ao ae af ad au av aw).bind fun ab => ((pochoirref32_At.f k ah ai aj ak al am an ao ae af ad au av aw).bind fun aq => (if ab.1 = aq.1 then (if ab.2.1 = aq.2.1 then (if ab.2.2.1 = aq.2.2.1 then (if ab.2.2.2.1 = aq.2.2.2.1 then (if ab.2.2.2.2 = aq.2.2.2.2 then ((sample_Median.f ab.1 ab.2.1 ab.2.2.1 ab.2.2.2.1).bind fun aS => ((pochoirref32_Median.f ab.1 ab.2.1 ab.2.2.1 ab.2.2.2.1).bind fun aQ => (some (aS == aQ)))) else (some false)) else (some false)) else (some false)) else (some false)) else (some false)))) else (some true))) else (some false))
theorem pochoirlaw32_SampleAt.gmono : ∀ a0 a1 a2 a3 a4 a5 a6 a7 a8 a9 a10 a11 a12 a13 k, LeO (pochoirlaw32_SampleAt.g k a0 a1 a2 a3 a4 a5 a6 a7 a8 a9 a10 a11 a12 a13) (pochoirlaw32_SampleAt.g (k + 1) a0 a1 a2 a3 a4 a5 a6 a7 a8 a9 a10 a11 a12 a13) := by
 intro a0 a1 a2 a3 a4 a5 a6 a7 a8 a9 a10 a11 a12 a13 k
 unfold pochoirlaw32_SampleAt.g
 repeat' first
   | (with_reducible exact pochoirlaw30_Few.mono _ _ _ _ _ _ _ _ _ _ _ _)
   | (with_reducible exact pochoirlaw32_awake.mono _)
   | (with_reducible exact pochoirref32_At.mono _ _ _ _ _ _ _ _ _ _ _ _ _ _ _)
   | (with_reducible exact sample_At.mono _ _ _ _ _ _ _ _ _ _ _ _ _ _ _)
   | (with_reducible exact LeO.refl _)
   | (with_reducible exact LeO.none _)
   | (with_reducible refine LeO.ite ?_ ?_)
   | (with_reducible refine LeO.bind ?_ (fun _ => ?_))
   | exact pochoirlaw30_Few.mono _ _ _ _ _ _ _ _ _ _ _ _
   | exact pochoirlaw32_awake.mono _
   | exact pochoirref32_At.mono _ _ _ _ _ _ _ _ _ _ _ _ _ _ _
   | exact sample_At.mono _ _ _ _ _ _ _ _ _ _ _ _ _ _ _
   | exact LeO.none _
   | refine LeO.ite ?_ ?_
   | refine LeO.bind ?_ (fun _ => ?_)
def pochoirlaw32_SampleAt.T7 : Bool × List (List Nat × List Nat) := (true, [([], []), ([], []), ([0, 1], [0, 1]), ([2], [2]), ([3], [3]), ([3], [3]), ([4, 5, 3], [3, 4, 5]), ([3, 6], [3, 6]), ([7, 3], [7]), ([8], [8]), ([9, 8, 8], [8, 9]), ([8], [8]), ([11, 10, 8], [8, 11]), ([10, 12, 8], [8, 10, 12]), ([8, 13], [8, 13]), ([14, 12, 0, 1, 2, 3, 4, 5, 6, 7, 8, 9, 10, 11, 12, 13, 14], [14])])
def pochoirlaw32_SampleAt.B7 : List Nat := [0, 0, 3, 7, 15, 15, 63, 127, 255, 511, 1023, 511, 4095, 8191, 16383, 32767]
theorem pochoirlaw32_SampleAt.tab7 : rtab .any (opsOf Tryd.f3 7) = pochoirlaw32_SampleAt.T7 := by kernel_rfl
theorem pochoirlaw32_SampleAt.bits7 : waitsOk pochoirlaw32_SampleAt.T7.2 pochoirlaw32_SampleAt.B7 = true := by kernel_rfl
set_option maxHeartbeats 8000000 in
set_option maxRecDepth 100000 in
theorem pochoirlaw32_SampleAt.gcalls (k : Nat) (ah : Int) (ai : Int) (aj : Int) (ak : Int) (al : Int) (am : Int) (an : Int) (ao : Int) (aB : Option Addr) (aC : Nat) (ae : List (S54)) (aD : Option Addr) (aE : Nat) (af : List (S84)) (ax : Option Addr) (ay : Nat) (ad : List ByteArray) (au : Int) (av : Int) (aw : Int) (r : Bool) (w : World) (bv : Kd.C k54 w aB ae.length ae) (bw : ae.length ≤ aC) (bx : Kd.C k84 w aD af.length af) (bz : af.length ≤ aE) (bp : Kd.C Kd.string w ax ad.length ad) (bq : ad.length ≤ ay) (hkeep : r = true) (h : pochoirlaw32_SampleAt.g k ah ai aj ak al am an ao ae af ad au av aw = some r) (hTab : HasTab w) :
  Calls Tryd.prog 3 #[.agg #[.int .i64 ah, .int .i64 ai, .int .i64 aj, .int .i64 ak, .int .i64 al, .int .i64 am, .int .i64 an, .int .i64 ao, .slice aB ae.length aC, .slice aD af.length aE, .slice ax ad.length ay], .agg #[.int .i64 au, .int .i64 av, .int .i64 aw]] w fun e w' => e = .returned (.bool r) ∧ Below w.heap.size w w' := by
 have HKP := A_.mk hkeep
 clear hkeep
 have ei := Tryd.underlying28
 have ej := Tryd.underlying29
 have ek := Tryd.underlying32
 have bA := A_.mk bv
 have bB := A_.mk bw
 clear bv bw
 have bC := A_.mk bx
 have bD := A_.mk bz
 clear bx bz
 have br := A_.mk bp
 have bs := A_.mk bq
 clear bp bq
 have HB := A_.mk (Below.refl w.heap.size w)
 have H : ((pochoirlaw32_awake.f k).bind fun bu => (if bu = true then ((pochoirlaw30_Few.f k ah ai aj ak al am an ao ae af ad).bind fun bg => (if bg = true then ((sample_At.f k ah ai aj ak al am an ao ae af ad au av aw).bind fun ab => ((pochoirref32_At.f k ah ai aj ak al am an ao ae af ad au av aw).bind fun aq => (if ab.1 = aq.1 then (if ab.2.1 = aq.2.1 then (if ab.2.2.1 = aq.2.2.1 then (if ab.2.2.2.1 = aq.2.2.2.1 then (if ab.2.2.2.2 = aq.2.2.2.2 then ((sample_Median.f ab.1 ab.2.1 ab.2.2.1 ab.2.2.2.1).bind fun aS => ((pochoirref32_Median.f ab.1 ab.2.1 ab.2.2.1 ab.2.2.2.1).bind fun aQ => (some (aS == aQ)))) else (some false)) else (some false)) else (some false)) else (some false)) else (some false)))) else (some true))) else (some false))) = some r := h
 clear h
 replace H := Option.bind_eq_some_iff.mp H
 obtain ⟨bu, A30, H⟩ := H
 replace H : (if bu = true then ((pochoirlaw30_Few.f k ah ai aj ak al am an ao ae af ad).bind fun bg => (if bg = true then ((sample_At.f k ah ai aj ak al am an ao ae af ad au av aw).bind fun ab => ((pochoirref32_At.f k ah ai aj ak al am an ao ae af ad au av aw).bind fun aq => (if ab.1 = aq.1 then (if ab.2.1 = aq.2.1 then (if ab.2.2.1 = aq.2.2.1 then (if ab.2.2.2.1 = aq.2.2.2.1 then (if ab.2.2.2.2 = aq.2.2.2.2 then ((sample_Median.f ab.1 ab.2.1 ab.2.2.1 ab.2.2.2.1).bind fun aS => ((pochoirref32_Median.f ab.1 ab.2.1 ab.2.2.1 ab.2.2.2.1).bind fun aQ => (some (aS == aQ)))) else (some false)) else (some false)) else (some false)) else (some false)) else (some false)))) else (some true))) else (some false)) = some r := H
 have A3 := A_.mk A30
 clear A30
 by_cases c4 : bu = true
 ·subst c4
  have H1 : ((pochoirlaw30_Few.f k ah ai aj ak al am an ao ae af ad).bind fun bg => (if bg = true then ((sample_At.f k ah ai aj ak al am an ao ae af ad au av aw).bind fun ab => ((pochoirref32_At.f k ah ai aj ak al am an ao ae af ad au av aw).bind fun aq => (if ab.1 = aq.1 then (if ab.2.1 = aq.2.1 then (if ab.2.2.1 = aq.2.2.1 then (if ab.2.2.2.1 = aq.2.2.2.1 then (if ab.2.2.2.2 = aq.2.2.2.2 then ((sample_Median.f ab.1 ab.2.1 ab.2.2.1 ab.2.2.2.1).bind fun aS => ((pochoirref32_Median.f ab.1 ab.2.1 ab.2.2.1 ab.2.2.2.1).bind fun aQ => (some (aS == aQ)))) else (some false)) else (some false)) else (some false)) else (some false)) else (some false)))) else (some true))) = some r := by rw [if_pos rfl] at H; exact H
  clear H
  have H := H1
  clear H1
  replace H := Option.bind_eq_some_iff.mp H
  obtain ⟨bg, A50, H⟩ := H
  replace H : (if bg = true then ((sample_At.f k ah ai aj ak al am an ao ae af ad au av aw).bind fun ab => ((pochoirref32_At.f k ah ai aj ak al am an ao ae af ad au av aw).bind fun aq => (if ab.1 = aq.1 then (if ab.2.1 = aq.2.1 then (if ab.2.2.1 = aq.2.2.1 then (if ab.2.2.2.1 = aq.2.2.2.1 then (if ab.2.2.2.2 = aq.2.2.2.2 then ((sample_Median.f ab.1 ab.2.1 ab.2.2.1 ab.2.2.2.1).bind fun aS => ((pochoirref32_Median.f ab.1 ab.2.1 ab.2.2.1 ab.2.2.2.1).bind fun aQ => (some (aS == aQ)))) else (some false)) else (some false)) else (some false)) else (some false)) else (some false)))) else (some true)) = some r := H
  have A5 := A_.mk A50
  clear A50
  by_cases c6 : bg = true
  ·subst c6
   have H1 : ((sample_At.f k ah ai aj ak al am an ao ae af ad au av aw).bind fun ab => ((pochoirref32_At.f k ah ai aj ak al am an ao ae af ad au av aw).bind fun aq => (if ab.1 = aq.1 then (if ab.2.1 = aq.2.1 then (if ab.2.2.1 = aq.2.2.1 then (if ab.2.2.2.1 = aq.2.2.2.1 then (if ab.2.2.2.2 = aq.2.2.2.2 then ((sample_Median.f ab.1 ab.2.1 ab.2.2.1 ab.2.2.2.1).bind fun aS => ((pochoirref32_Median.f ab.1 ab.2.1 ab.2.2.1 ab.2.2.2.1).bind fun aQ => (some (aS == aQ)))) else (some false)) else (some false)) else (some false)) else (some false)) else (some false)))) = some r := by rw [if_pos rfl] at H; exact H
   clear H
   have H := H1
   clear H1
   replace H := Option.bind_eq_some_iff.mp H
   obtain ⟨⟨aL, aM, aN, aO, bh⟩, A70, H⟩ := H
   replace H : ((pochoirref32_At.f k ah ai aj ak al am an ao ae af ad au av aw).bind fun aq => (if aL = aq.1 then (if aM = aq.2.1 then (if aN = aq.2.2.1 then (if aO = aq.2.2.2.1 then (if bh = aq.2.2.2.2 then ((sample_Median.f aL aM aN aO).bind fun aS => ((pochoirref32_Median.f aL aM aN aO).bind fun aQ => (some (aS == aQ)))) else (some false)) else (some false)) else (some false)) else (some false)) else (some false))) = some r := H
   have A7 := A_.mk A70
   clear A70
   replace H := Option.bind_eq_some_iff.mp H
   obtain ⟨⟨aR, aT, aU, aW, bo⟩, A80, H⟩ := H
   replace H : (if aL = aR then (if aM = aT then (if aN = aU then (if aO = aW then (if bh = bo then ((sample_Median.f aL aM aN aO).bind fun aS => ((pochoirref32_Median.f aL aM aN aO).bind fun aQ => (some (aS == aQ)))) else (some false)) else (some false)) else (some false)) else (some false)) else (some false)) = some r := H
   have A8 := A_.mk A80
   clear A80
   by_cases c9 : aL = aR
   ·rw [if_pos c9] at H
    have b3 : (aL == aR) = true := beq_iff_eq.mpr c9
    have b4 : (aL != aR) = false := bne_eq_false_iff_eq.mpr c9
    clear c9
    by_cases c10 : aM = aT
    ·rw [if_pos c10] at H
     have bR : (aM == aT) = true := beq_iff_eq.mpr c10
     have bS : (aM != aT) = false := bne_eq_false_iff_eq.mpr c10
     clear c10
     by_cases c11 : aN = aU
     ·rw [if_pos c11] at H
      have bT : (aN == aU) = true := beq_iff_eq.mpr c11
      have bU : (aN != aU) = false := bne_eq_false_iff_eq.mpr c11
      clear c11
      by_cases c12 : aO = aW
      ·rw [if_pos c12] at H
       have bV : (aO == aW) = true := beq_iff_eq.mpr c12
       have bW : (aO != aW) = false := bne_eq_false_iff_eq.mpr c12
       clear c12
       by_cases c13 : bh = bo
       ·rw [if_pos c13] at H
        have bX : (bh == bo) = true := beq_iff_eq.mpr c13
        have bY : (bh != bo) = false := bne_eq_false_iff_eq.mpr c13
        clear c13
        replace H := Option.bind_eq_some_iff.mp H
        obtain ⟨aS, A140, H⟩ := H
        replace H : ((pochoirref32_Median.f aL aM aN aO).bind fun aQ => (some (aS == aQ))) = some r := H
        have A14 := A_.mk A140
        clear A140
        replace H := Option.bind_eq_some_iff.mp H
        obtain ⟨aQ, A150, H⟩ := H
        replace H : (some (aS == aQ)) = some r := H
        have A15 := A_.mk A150
        clear A150
        obtain rfl := Option.some.inj H
        go_enter Tryd.func3, Tryd.ntmps3
        try go_wp2_with (first | ((with_reducible refine O_ (N := 2) rfl ?_); refine N_ ?hg (N := 2) ?hd (cs := #[.int .i64 ah, .int .i64 ai, .int .i64 aj, .int .i64 ak, .int .i64 al, .int .i64 am, .int .i64 an, .int .i64 ao, .slice aB ae.length aC, .slice aD af.length aE, .slice ax ad.length ay]) (t := 28) ?hr ?_; (case hd => rfl); (case hg => rfl); (case hr => first | (go_simp; done) | (go_simp; rfl)); intro ac hg eo hbox hb; have aG := A_.mk (E_ (by exact lB HB.out) hb); have aH := A_.mk (hbox); have aI := A_.mk ((by rw [hg]; exact (G_ (by exact lB HB.out)) : w.heap.size ≤ ac)); have aP := A_.mk ((by rw [hg]; exact (G_ (by exact lB HB.out)) : w.heap.size ≤ ac)); clear HB; have HB := aG; have aa := aH; have bZ := aI; have aF := aP; clear aG aH aI aP; clear hb hbox hg) | ((with_reducible refine O_ (N := 3) rfl ?_); refine N_ ?hg (N := 3) ?hd (cs := #[.int .i64 au, .int .i64 av, .int .i64 aw]) (t := 29) ?hr ?_; (case hd => rfl); (case hg => rfl); (case hr => first | (go_simp; done) | (go_simp; rfl)); intro az hg ep hbox hb; have aG := A_.mk (F_ (g := ac) (o := .cells #[.int .i64 ah, .int .i64 ai, .int .i64 aj, .int .i64 ak, .int .i64 al, .int .i64 am, .int .i64 an, .int .i64 ao, .slice aB ae.length aC, .slice aD af.length aE, .slice ax ad.length ay] 28 (0, 0)) (by refine kB ?_; exact aa.out) hb); have aH := A_.mk (E_ (by exact lB HB.out) hb); have aI := A_.mk (hbox); have aP := A_.mk ((by rw [hg]; exact (G_ (by exact lB HB.out)) : w.heap.size ≤ az)); have aV := A_.mk ((by rw [hg]; exact (G_ (by exact lB HB.out)) : w.heap.size ≤ az)); have bi := A_.mk ((by rw [hg]; exact Nat.ne_of_lt (M_ (g := ac) (o := .cells #[.int .i64 ah, .int .i64 ai, .int .i64 aj, .int .i64 ak, .int .i64 al, .int .i64 am, .int .i64 an, .int .i64 ao, .slice aB ae.length aC, .slice aD af.length aE, .slice ax ad.length ay] 28 (0, 0)) (by refine kB ?_; exact aa.out)) : ac ≠ az)); have bj := A_.mk ((by rw [hg]; exact Nat.ne_of_gt (M_ (g := ac) (o := .cells #[.int .i64 ah, .int .i64 ai, .int .i64 aj, .int .i64 ak, .int .i64 al, .int .i64 am, .int .i64 an, .int .i64 ao, .slice aB ae.length aC, .slice aD af.length aE, .slice ax ad.length ay] 28 (0, 0)) (by refine kB ?_; exact aa.out)) : az ≠ ac)); clear aa; clear HB; have aa := aG; have HB := aH; have ag := aI; have b0 := aP; have aJ := aV; have bk := bi; have bl := bj; clear aG aH aI aP aV bi bj; clear hb hbox hg) | ((with_reducible refine P_ (f := 6) rfl ?_); refine R_ (some 9) rfl rfl Tryd.func6 (by kernel_rfl) rfl #[] rfl (by (try simp only [List.map_toArray, List.map_cons, List.map_nil]); first | done | rfl | (simp only [List.length_drop, List.length_take]; rfl)) ?_; (with_reducible refine (pochoirlaw32_awake.calls k  true _ A3.out (hTab.below (by exact lB HB.out))).mono ?_); rintro e bm ⟨rfl, hb⟩; refine ⟨_, rfl, ?_⟩; have aG := A_.mk (F_ (g := ac) (o := .cells #[.int .i64 ah, .int .i64 ai, .int .i64 aj, .int .i64 ak, .int .i64 al, .int .i64 am, .int .i64 an, .int .i64 ao, .slice aB ae.length aC, .slice aD af.length aE, .slice ax ad.length ay] 28 (0, 0)) (by refine kB ?_; exact aa.out) hb); have aH := A_.mk (F_ (g := az) (o := .cells #[.int .i64 au, .int .i64 av, .int .i64 aw] 29 (0, 0)) (by refine kB ?_; exact ag.out) hb); have aI := A_.mk (E_ (by exact lB HB.out) hb); clear aa; clear ag; clear HB; have aa := aG; have ag := aH; have HB := aI; clear aG aH aI; (try clear hb); (try clear bF); (try clear hk); (try clear hi); have d4 := bk.out; have d5 := bl.out; have cw : bm.cell? ⟨ac, 0, none⟩ = some (.int .i64 ah) := (D_ aa.out 0).trans rfl; have cx : bm.cell? ⟨ac, 1, none⟩ = some (.int .i64 ai) := (D_ aa.out 1).trans rfl; have cy : bm.cell? ⟨ac, 2, none⟩ = some (.int .i64 aj) := (D_ aa.out 2).trans rfl; have cz : bm.cell? ⟨ac, 3, none⟩ = some (.int .i64 ak) := (D_ aa.out 3).trans rfl; have cA : bm.cell? ⟨ac, 4, none⟩ = some (.int .i64 al) := (D_ aa.out 4).trans rfl; have cB : bm.cell? ⟨ac, 5, none⟩ = some (.int .i64 am) := (D_ aa.out 5).trans rfl; have cC : bm.cell? ⟨ac, 6, none⟩ = some (.int .i64 an) := (D_ aa.out 6).trans rfl; have cD : bm.cell? ⟨ac, 7, none⟩ = some (.int .i64 ao) := (D_ aa.out 7).trans rfl; have cE : bm.cell? ⟨ac, 8, none⟩ = some (.slice aB ae.length aC) := (D_ aa.out 8).trans rfl; have cF : bm.cell? ⟨ac, 9, none⟩ = some (.slice aD af.length aE) := (D_ aa.out 9).trans rfl; have b5 : bm.cell? ⟨ac, 10, none⟩ = some (.slice ax ad.length ay) := (D_ aa.out 10).trans rfl; have cG := B_ aa.out 0; have cH := B_ aa.out 1; have cI := B_ aa.out 2; have cJ := B_ aa.out 3; have cK := B_ aa.out 4; have cL := B_ aa.out 5; have cM := B_ aa.out 6; have cN := B_ aa.out 7; have cO := B_ aa.out 8; have cP := B_ aa.out 9; have b6 := B_ aa.out 10) | ((with_reducible refine P_ (f := 7) rfl ?_); refine R_ (some 12) rfl rfl Tryd.func7 (by kernel_rfl) rfl #[.agg #[.int .i64 ah, .int .i64 ai, .int .i64 aj, .int .i64 ak, .int .i64 al, .int .i64 am, .int .i64 an, .int .i64 ao, .slice aB ae.length aC, .slice aD af.length aE, .slice ax ad.length ay]] rfl (by (try simp only [List.map_toArray, List.map_cons, List.map_nil]); first | done | rfl | (simp only [List.length_drop, List.length_take]; rfl)) ?_; (with_reducible refine (pochoirlaw30_Few.calls k ah ai aj ak al am an ao _ _ ae _ _ af _ _ ad true _ ?side1 ?side2 ?side3 ?side4 ?side5 ?side6 A5.out).mono ?_); (case side1 => repeat (first | exact (Kd.C_below bA.out HB.out) | (with_reducible refine Kd.C_alloc ?_ _) | (with_reducible refine Kd.C_drewN ?_ _) | (with_reducible refine Kd.C_drew ?_))); (case side2 => exact bB.out); (case side3 => repeat (first | exact (Kd.C_below bC.out HB.out) | (with_reducible refine Kd.C_alloc ?_ _) | (with_reducible refine Kd.C_drewN ?_ _) | (with_reducible refine Kd.C_drew ?_))); (case side4 => exact bD.out); (case side5 => repeat (first | exact (Kd.C_below br.out HB.out) | (with_reducible refine Kd.C_alloc ?_ _) | (with_reducible refine Kd.C_drewN ?_ _) | (with_reducible refine Kd.C_drew ?_))); (case side6 => exact bs.out); rintro e bf ⟨rfl, hb⟩; refine ⟨_, rfl, ?_⟩; have aG := A_.mk (F_ (g := ac) (o := .cells #[.int .i64 ah, .int .i64 ai, .int .i64 aj, .int .i64 ak, .int .i64 al, .int .i64 am, .int .i64 an, .int .i64 ao, .slice aB ae.length aC, .slice aD af.length aE, .slice ax ad.length ay] 28 (0, 0)) (by refine kB ?_; exact aa.out) hb); have aH := A_.mk (F_ (g := az) (o := .cells #[.int .i64 au, .int .i64 av, .int .i64 aw] 29 (0, 0)) (by refine kB ?_; exact ag.out) hb); have aI := A_.mk (E_ (by exact lB HB.out) hb); clear aa; clear ag; clear HB; have aa := aG; have ag := aH; have HB := aI; clear aG aH aI; (try clear hb); (try clear bF); (try clear hk); (try clear hi); have cQ : bf.cell? ⟨ac, 0, none⟩ = some (.int .i64 ah) := (D_ aa.out 0).trans rfl; have cR : bf.cell? ⟨ac, 1, none⟩ = some (.int .i64 ai) := (D_ aa.out 1).trans rfl; have cS : bf.cell? ⟨ac, 2, none⟩ = some (.int .i64 aj) := (D_ aa.out 2).trans rfl; have cT : bf.cell? ⟨ac, 3, none⟩ = some (.int .i64 ak) := (D_ aa.out 3).trans rfl; have cU : bf.cell? ⟨ac, 4, none⟩ = some (.int .i64 al) := (D_ aa.out 4).trans rfl; have cV : bf.cell? ⟨ac, 5, none⟩ = some (.int .i64 am) := (D_ aa.out 5).trans rfl; have cW : bf.cell? ⟨ac, 6, none⟩ = some (.int .i64 an) := (D_ aa.out 6).trans rfl; have cX : bf.cell? ⟨ac, 7, none⟩ = some (.int .i64 ao) := (D_ aa.out 7).trans rfl; have cY : bf.cell? ⟨ac, 8, none⟩ = some (.slice aB ae.length aC) := (D_ aa.out 8).trans rfl; have cZ : bf.cell? ⟨ac, 9, none⟩ = some (.slice aD af.length aE) := (D_ aa.out 9).trans rfl; have b7 : bf.cell? ⟨ac, 10, none⟩ = some (.slice ax ad.length ay) := (D_ aa.out 10).trans rfl; have c0 := B_ aa.out 0; have c1 := B_ aa.out 1; have c2 := B_ aa.out 2; have c3 := B_ aa.out 3; have c5 := B_ aa.out 4; have c7 := B_ aa.out 5; have c8 := B_ aa.out 6; have da := B_ aa.out 7; have db := B_ aa.out 8; have dc := B_ aa.out 9; have b8 := B_ aa.out 10; have dd : bf.cell? ⟨az, 0, none⟩ = some (.int .i64 au) := (D_ ag.out 0).trans rfl; have de : bf.cell? ⟨az, 1, none⟩ = some (.int .i64 av) := (D_ ag.out 1).trans rfl; have df : bf.cell? ⟨az, 2, none⟩ = some (.int .i64 aw) := (D_ ag.out 2).trans rfl; have dg := B_ ag.out 0; have dh := B_ ag.out 1; have di := B_ ag.out 2) | ((with_reducible refine P_ (f := 8) rfl ?_); refine R_ (some 22) rfl rfl Tryd.func8 (by kernel_rfl) rfl #[.agg #[.int .i64 ah, .int .i64 ai, .int .i64 aj, .int .i64 ak, .int .i64 al, .int .i64 am, .int .i64 an, .int .i64 ao, .slice aB ae.length aC, .slice aD af.length aE, .slice ax ad.length ay], .int .i64 au, .int .i64 av, .int .i64 aw] rfl (by (try simp only [List.map_toArray, List.map_cons, List.map_nil]); first | done | rfl | (simp only [List.length_drop, List.length_take]; rfl)) ?_; (with_reducible refine (sample_At.calls k ah ai aj ak al am an ao _ _ ae _ _ af _ _ ad au av aw aL aM aN aO bh _ ?side1 ?side2 ?side3 ?side4 ?side5 ?side6 A7.out).mono ?_); (case side1 => repeat (first | exact (Kd.C_below bA.out HB.out) | (with_reducible refine Kd.C_alloc ?_ _) | (with_reducible refine Kd.C_drewN ?_ _) | (with_reducible refine Kd.C_drew ?_))); (case side2 => exact bB.out); (case side3 => repeat (first | exact (Kd.C_below bC.out HB.out) | (with_reducible refine Kd.C_alloc ?_ _) | (with_reducible refine Kd.C_drewN ?_ _) | (with_reducible refine Kd.C_drew ?_))); (case side4 => exact bD.out); (case side5 => repeat (first | exact (Kd.C_below br.out HB.out) | (with_reducible refine Kd.C_alloc ?_ _) | (with_reducible refine Kd.C_drewN ?_ _) | (with_reducible refine Kd.C_drew ?_))); (case side6 => exact bs.out); rintro e eq ⟨rfl, hb⟩; refine ⟨_, rfl, ?_⟩; have aG := A_.mk (F_ (g := ac) (o := .cells #[.int .i64 ah, .int .i64 ai, .int .i64 aj, .int .i64 ak, .int .i64 al, .int .i64 am, .int .i64 an, .int .i64 ao, .slice aB ae.length aC, .slice aD af.length aE, .slice ax ad.length ay] 28 (0, 0)) (by refine kB ?_; exact aa.out) hb); have aH := A_.mk (F_ (g := az) (o := .cells #[.int .i64 au, .int .i64 av, .int .i64 aw] 29 (0, 0)) (by refine kB ?_; exact ag.out) hb); have aI := A_.mk (E_ (by exact lB HB.out) hb); clear aa; clear ag; clear HB; have aa := aG; have ag := aH; have HB := aI; clear aG aH aI; (try clear hb); (try clear bF); (try clear hk); (try clear hi)) | ((with_reducible refine O_ (N := 5) rfl ?_); refine N_ ?hg (N := 5) ?hd (cs := #[.int .i64 0, .int .i64 0, .int .i64 0, .int .i64 0]) (t := 32) ?hr ?_; (case hd => rfl); (case hg => rfl); (case hr => first | (go_simp; done) | (go_simp; rfl)); intro aK hg aY hbox hb; have aG := A_.mk (F_ (g := ac) (o := .cells #[.int .i64 ah, .int .i64 ai, .int .i64 aj, .int .i64 ak, .int .i64 al, .int .i64 am, .int .i64 an, .int .i64 ao, .slice aB ae.length aC, .slice aD af.length aE, .slice ax ad.length ay] 28 (0, 0)) (by refine kB ?_; exact aa.out) hb); have aH := A_.mk (F_ (g := az) (o := .cells #[.int .i64 au, .int .i64 av, .int .i64 aw] 29 (0, 0)) (by refine kB ?_; exact ag.out) hb); have aI := A_.mk (E_ (by exact lB HB.out) hb); have aP := A_.mk (hbox); have aV := A_.mk ((by rw [hg]; exact (G_ (by exact lB HB.out)) : w.heap.size ≤ aK)); have bi := A_.mk ((by rw [hg]; exact (G_ (by exact lB HB.out)) : w.heap.size ≤ aK)); have bj := A_.mk ((by rw [hg]; exact Nat.ne_of_lt (M_ (g := ac) (o := .cells #[.int .i64 ah, .int .i64 ai, .int .i64 aj, .int .i64 ak, .int .i64 al, .int .i64 am, .int .i64 an, .int .i64 ao, .slice aB ae.length aC, .slice aD af.length aE, .slice ax ad.length ay] 28 (0, 0)) (by refine kB ?_; exact aa.out)) : ac ≠ aK)); have bG := A_.mk ((by rw [hg]; exact Nat.ne_of_gt (M_ (g := ac) (o := .cells #[.int .i64 ah, .int .i64 ai, .int .i64 aj, .int .i64 ak, .int .i64 al, .int .i64 am, .int .i64 an, .int .i64 ao, .slice aB ae.length aC, .slice aD af.length aE, .slice ax ad.length ay] 28 (0, 0)) (by refine kB ?_; exact aa.out)) : aK ≠ ac)); have bH := A_.mk ((by rw [hg]; exact Nat.ne_of_lt (M_ (g := az) (o := .cells #[.int .i64 au, .int .i64 av, .int .i64 aw] 29 (0, 0)) (by refine kB ?_; exact ag.out)) : az ≠ aK)); have bI := A_.mk ((by rw [hg]; exact Nat.ne_of_gt (M_ (g := az) (o := .cells #[.int .i64 au, .int .i64 av, .int .i64 aw] 29 (0, 0)) (by refine kB ?_; exact ag.out)) : aK ≠ az)); clear aa; clear ag; clear HB; have aa := aG; have ag := aH; have HB := aI; have ar := aP; have d6 := aV; have aX := bi; have aZ := bj; have bJ := bG; have ba := bH; have bK := bI; clear aG aH aI aP aV bi bj bG bH bI; clear hb hbox hg; have d7 := bJ.out; have d8 := aZ.out; have d9 := bK.out; have ea := ba.out; have dj : aY.cell? ⟨aK, 0, none⟩ = some (.int .i64 0) := (D_ ar.out 0).trans rfl; have dk : aY.cell? ⟨aK, 1, none⟩ = some (.int .i64 0) := (D_ ar.out 1).trans rfl; have dl : aY.cell? ⟨aK, 2, none⟩ = some (.int .i64 0) := (D_ ar.out 2).trans rfl; have dm : aY.cell? ⟨aK, 3, none⟩ = some (.int .i64 0) := (D_ ar.out 3).trans rfl; have dn := B_ ar.out 0; have dp := B_ ar.out 1; have dq := B_ ar.out 2; have dr := B_ ar.out 3; have dt : aY.cell? ⟨ac, 0, none⟩ = some (.int .i64 ah) := (D_ aa.out 0).trans rfl; have du : aY.cell? ⟨ac, 1, none⟩ = some (.int .i64 ai) := (D_ aa.out 1).trans rfl; have dv : aY.cell? ⟨ac, 2, none⟩ = some (.int .i64 aj) := (D_ aa.out 2).trans rfl; have dw : aY.cell? ⟨ac, 3, none⟩ = some (.int .i64 ak) := (D_ aa.out 3).trans rfl; have dx : aY.cell? ⟨ac, 4, none⟩ = some (.int .i64 al) := (D_ aa.out 4).trans rfl; have dy : aY.cell? ⟨ac, 5, none⟩ = some (.int .i64 am) := (D_ aa.out 5).trans rfl; have dz : aY.cell? ⟨ac, 6, none⟩ = some (.int .i64 an) := (D_ aa.out 6).trans rfl; have dA : aY.cell? ⟨ac, 7, none⟩ = some (.int .i64 ao) := (D_ aa.out 7).trans rfl; have dB : aY.cell? ⟨ac, 8, none⟩ = some (.slice aB ae.length aC) := (D_ aa.out 8).trans rfl; have dC : aY.cell? ⟨ac, 9, none⟩ = some (.slice aD af.length aE) := (D_ aa.out 9).trans rfl; have b9 : aY.cell? ⟨ac, 10, none⟩ = some (.slice ax ad.length ay) := (D_ aa.out 10).trans rfl; have dD := B_ aa.out 0; have dE := B_ aa.out 1; have dF := B_ aa.out 2; have dG := B_ aa.out 3; have dH := B_ aa.out 4; have dI := B_ aa.out 5; have dJ := B_ aa.out 6; have dK := B_ aa.out 7; have dL := B_ aa.out 8; have dM := B_ aa.out 9; have ca := B_ aa.out 10; have dN : aY.cell? ⟨az, 0, none⟩ = some (.int .i64 au) := (D_ ag.out 0).trans rfl; have dO : aY.cell? ⟨az, 1, none⟩ = some (.int .i64 av) := (D_ ag.out 1).trans rfl; have dP : aY.cell? ⟨az, 2, none⟩ = some (.int .i64 aw) := (D_ ag.out 2).trans rfl; have dQ := B_ ag.out 0; have dR := B_ ag.out 1; have dS := B_ ag.out 2) | ((with_reducible refine P_ (f := 9) rfl ?_); refine R_ (some 33) rfl rfl Tryd.func9 (by kernel_rfl) rfl #[.agg #[.int .i64 ah, .int .i64 ai, .int .i64 aj, .int .i64 ak, .int .i64 al, .int .i64 am, .int .i64 an, .int .i64 ao, .slice aB ae.length aC, .slice aD af.length aE, .slice ax ad.length ay], .int .i64 au, .int .i64 av, .int .i64 aw] rfl (by (try simp only [List.map_toArray, List.map_cons, List.map_nil]); first | done | rfl | (simp only [List.length_drop, List.length_take]; rfl)) ?_; (with_reducible refine (pochoirref32_At.calls k ah ai aj ak al am an ao _ _ ae _ _ af _ _ ad au av aw aR aT aU aW bo _ ?side1 ?side2 ?side3 ?side4 ?side5 ?side6 A8.out).mono ?_); (case side1 => exact Kd.C_below bA.out (by exact lB HB.out)); (case side2 => exact bB.out); (case side3 => exact Kd.C_below bC.out (by exact lB HB.out)); (case side4 => exact bD.out); (case side5 => exact Kd.C_below br.out (by exact lB HB.out)); (case side6 => exact bs.out); rintro e er ⟨rfl, hb⟩; refine ⟨_, rfl, ?_⟩; have aG := A_.mk (F_ (g := ac) (o := .cells #[.int .i64 ah, .int .i64 ai, .int .i64 aj, .int .i64 ak, .int .i64 al, .int .i64 am, .int .i64 an, .int .i64 ao, .slice aB ae.length aC, .slice aD af.length aE, .slice ax ad.length ay] 28 (0, 0)) (by refine kB ?_; refine J_ ?_ aZ.out _; refine kB ?_; refine J_ ?_ aZ.out _; refine kB ?_; refine J_ ?_ aZ.out _; refine kB ?_; refine J_ ?_ aZ.out _; refine kB ?_; exact aa.out) hb); have aH := A_.mk (F_ (g := az) (o := .cells #[.int .i64 au, .int .i64 av, .int .i64 aw] 29 (0, 0)) (by refine kB ?_; refine J_ ?_ ba.out _; refine kB ?_; refine J_ ?_ ba.out _; refine kB ?_; refine J_ ?_ ba.out _; refine kB ?_; refine J_ ?_ ba.out _; refine kB ?_; exact ag.out) hb); have aI := A_.mk (F_ (g := aK) (o := .cells #[.int .i64 aL, .int .i64 aM, .int .i64 aN, .int .i64 aO] 32 (0, 0)) (by refine kB ?_; refine L_ (cs := #[.int .i64 aL, .int .i64 aM, .int .i64 aN, .int .i64 0]) ?_ 3 _ rfl; refine kB ?_; refine L_ (cs := #[.int .i64 aL, .int .i64 aM, .int .i64 0, .int .i64 0]) ?_ 2 _ rfl; refine kB ?_; refine L_ (cs := #[.int .i64 aL, .int .i64 0, .int .i64 0, .int .i64 0]) ?_ 1 _ rfl; refine kB ?_; refine L_ (cs := #[.int .i64 0, .int .i64 0, .int .i64 0, .int .i64 0]) ?_ 0 _ rfl; refine kB ?_; exact ar.out) hb); have aP := A_.mk (E_ (by exact lB HB.out) hb); clear aa; clear ag; clear ar; clear HB; have aa := aG; have ag := aH; have ar := aI; have HB := aP; clear aG aH aI aP; (try clear hb); (try clear bF); (try clear hk); (try clear hi)) | ((with_reducible refine O_ (N := 7) rfl ?_); refine N_ ?hg (N := 7) ?hd (cs := #[.int .i64 0, .int .i64 0, .int .i64 0, .int .i64 0]) (t := 32) ?hr ?_; (case hd => rfl); (case hg => rfl); (case hr => first | (go_simp; done) | (go_simp; rfl)); intro ap hg bn hbox hb; have aG := A_.mk (F_ (g := ac) (o := .cells #[.int .i64 ah, .int .i64 ai, .int .i64 aj, .int .i64 ak, .int .i64 al, .int .i64 am, .int .i64 an, .int .i64 ao, .slice aB ae.length aC, .slice aD af.length aE, .slice ax ad.length ay] 28 (0, 0)) (by refine kB ?_; exact aa.out) hb); have aH := A_.mk (F_ (g := az) (o := .cells #[.int .i64 au, .int .i64 av, .int .i64 aw] 29 (0, 0)) (by refine kB ?_; exact ag.out) hb); have aI := A_.mk (F_ (g := aK) (o := .cells #[.int .i64 aL, .int .i64 aM, .int .i64 aN, .int .i64 aO] 32 (0, 0)) (by refine kB ?_; exact ar.out) hb); have aP := A_.mk (E_ (by exact lB HB.out) hb); have aV := A_.mk (hbox); have bi := A_.mk ((by rw [hg]; exact (G_ (by exact lB HB.out)) : w.heap.size ≤ ap)); have bj := A_.mk ((by rw [hg]; exact (G_ (by exact lB HB.out)) : w.heap.size ≤ ap)); have bG := A_.mk ((by rw [hg]; exact Nat.ne_of_lt (M_ (g := ac) (o := .cells #[.int .i64 ah, .int .i64 ai, .int .i64 aj, .int .i64 ak, .int .i64 al, .int .i64 am, .int .i64 an, .int .i64 ao, .slice aB ae.length aC, .slice aD af.length aE, .slice ax ad.length ay] 28 (0, 0)) (by refine kB ?_; exact aa.out)) : ac ≠ ap)); have bH := A_.mk ((by rw [hg]; exact Nat.ne_of_gt (M_ (g := ac) (o := .cells #[.int .i64 ah, .int .i64 ai, .int .i64 aj, .int .i64 ak, .int .i64 al, .int .i64 am, .int .i64 an, .int .i64 ao, .slice aB ae.length aC, .slice aD af.length aE, .slice ax ad.length ay] 28 (0, 0)) (by refine kB ?_; exact aa.out)) : ap ≠ ac)); have bI := A_.mk ((by rw [hg]; exact Nat.ne_of_lt (M_ (g := az) (o := .cells #[.int .i64 au, .int .i64 av, .int .i64 aw] 29 (0, 0)) (by refine kB ?_; exact ag.out)) : az ≠ ap)); have bO := A_.mk ((by rw [hg]; exact Nat.ne_of_gt (M_ (g := az) (o := .cells #[.int .i64 au, .int .i64 av, .int .i64 aw] 29 (0, 0)) (by refine kB ?_; exact ag.out)) : ap ≠ az)); have bP := A_.mk ((by rw [hg]; exact Nat.ne_of_lt (M_ (g := aK) (o := .cells #[.int .i64 aL, .int .i64 aM, .int .i64 aN, .int .i64 aO] 32 (0, 0)) (by refine kB ?_; exact ar.out)) : aK ≠ ap)); have bQ := A_.mk ((by rw [hg]; exact Nat.ne_of_gt (M_ (g := aK) (o := .cells #[.int .i64 aL, .int .i64 aM, .int .i64 aN, .int .i64 aO] 32 (0, 0)) (by refine kB ?_; exact ar.out)) : ap ≠ aK)); clear aa; clear ag; clear ar; clear HB; have aa := aG; have ag := aH; have ar := aI; have HB := aP; have aA := aV; have eb := bi; have bE := bj; have bb := bG; have bL := bH; have bc := bI; have bM := bO; have bd := bP; have bN := bQ; clear aG aH aI aP aV bi bj bG bH bI bO bP bQ; clear hb hbox hg; have ec := bL.out; have ed := bb.out; have ee := bM.out; have ef := bc.out; have eg := bN.out; have eh := bd.out; have dT : bn.cell? ⟨ap, 0, none⟩ = some (.int .i64 0) := (D_ aA.out 0).trans rfl; have dU : bn.cell? ⟨ap, 1, none⟩ = some (.int .i64 0) := (D_ aA.out 1).trans rfl; have dV : bn.cell? ⟨ap, 2, none⟩ = some (.int .i64 0) := (D_ aA.out 2).trans rfl; have dW : bn.cell? ⟨ap, 3, none⟩ = some (.int .i64 0) := (D_ aA.out 3).trans rfl; have dX := B_ aA.out 0; have dY := B_ aA.out 1; have dZ := B_ aA.out 2; have d0 := B_ aA.out 3))
        have aG : A_ (((((bn.setCell ⟨ap, 0, none⟩ (.int .i64 aR)).setCell ⟨ap, 1, none⟩ (.int .i64 aT)).setCell ⟨ap, 2, none⟩ (.int .i64 aU)).setCell ⟨ap, 3, none⟩ (.int .i64 aW)).heap[ac]? = some (.cells #[.int .i64 ah, .int .i64 ai, .int .i64 aj, .int .i64 ak, .int .i64 al, .int .i64 am, .int .i64 an, .int .i64 ao, .slice aB ae.length aC, .slice aD af.length aE, .slice ax ad.length ay] 28 (0, 0))) := ⟨by refine kB ?_; refine J_ ?_ bb.out _; refine kB ?_; refine J_ ?_ bb.out _; refine kB ?_; refine J_ ?_ bb.out _; refine kB ?_; refine J_ ?_ bb.out _; refine kB ?_; exact aa.out⟩
        have aH : A_ (((((bn.setCell ⟨ap, 0, none⟩ (.int .i64 aR)).setCell ⟨ap, 1, none⟩ (.int .i64 aT)).setCell ⟨ap, 2, none⟩ (.int .i64 aU)).setCell ⟨ap, 3, none⟩ (.int .i64 aW)).heap[az]? = some (.cells #[.int .i64 au, .int .i64 av, .int .i64 aw] 29 (0, 0))) := ⟨by refine kB ?_; refine J_ ?_ bc.out _; refine kB ?_; refine J_ ?_ bc.out _; refine kB ?_; refine J_ ?_ bc.out _; refine kB ?_; refine J_ ?_ bc.out _; refine kB ?_; exact ag.out⟩
        have aI : A_ (((((bn.setCell ⟨ap, 0, none⟩ (.int .i64 aR)).setCell ⟨ap, 1, none⟩ (.int .i64 aT)).setCell ⟨ap, 2, none⟩ (.int .i64 aU)).setCell ⟨ap, 3, none⟩ (.int .i64 aW)).heap[aK]? = some (.cells #[.int .i64 aL, .int .i64 aM, .int .i64 aN, .int .i64 aO] 32 (0, 0))) := ⟨by refine kB ?_; refine J_ ?_ bd.out _; refine kB ?_; refine J_ ?_ bd.out _; refine kB ?_; refine J_ ?_ bd.out _; refine kB ?_; refine J_ ?_ bd.out _; refine kB ?_; exact ar.out⟩
        have aP : A_ (((((bn.setCell ⟨ap, 0, none⟩ (.int .i64 aR)).setCell ⟨ap, 1, none⟩ (.int .i64 aT)).setCell ⟨ap, 2, none⟩ (.int .i64 aU)).setCell ⟨ap, 3, none⟩ (.int .i64 aW)).heap[ap]? = some (.cells #[.int .i64 aR, .int .i64 aT, .int .i64 aU, .int .i64 aW] 32 (0, 0))) := ⟨by refine kB ?_; refine L_ (cs := #[.int .i64 aR, .int .i64 aT, .int .i64 aU, .int .i64 0]) ?_ 3 _ rfl; refine kB ?_; refine L_ (cs := #[.int .i64 aR, .int .i64 aT, .int .i64 0, .int .i64 0]) ?_ 2 _ rfl; refine kB ?_; refine L_ (cs := #[.int .i64 aR, .int .i64 0, .int .i64 0, .int .i64 0]) ?_ 1 _ rfl; refine kB ?_; refine L_ (cs := #[.int .i64 0, .int .i64 0, .int .i64 0, .int .i64 0]) ?_ 0 _ rfl; refine kB ?_; exact aA.out⟩
        have aV : A_ (Below w.heap.size w ((((bn.setCell ⟨ap, 0, none⟩ (.int .i64 aR)).setCell ⟨ap, 1, none⟩ (.int .i64 aT)).setCell ⟨ap, 2, none⟩ (.int .i64 aU)).setCell ⟨ap, 3, none⟩ (.int .i64 aW))) := ⟨by exact lB HB.out⟩
        (try clear aa)
        (try clear ag)
        (try clear ar)
        (try clear aA)
        (try clear HB)
        generalize ((((bn.setCell ⟨ap, 0, none⟩ (.int .i64 aR)).setCell ⟨ap, 1, none⟩ (.int .i64 aT)).setCell ⟨ap, 2, none⟩ (.int .i64 aU)).setCell ⟨ap, 3, none⟩ (.int .i64 aW)) = d1 at aG aH aI aP aV ⊢
        have aa := aG
        have ag := aH
        have ar := aI
        have aA := aP
        have HB := aV
        clear aG aH aI aP aV
        have aG := A_.mk (Y_ aa.out)
        have aH := A_.mk (Y_ ag.out)
        have aI := A_.mk (Y_ ar.out)
        have aP := A_.mk (Y_ aA.out)
        have aV := A_.mk (T_ HB.out)
        clear aa
        clear ag
        clear ar
        clear aA
        clear HB
        have aa := aG
        have ag := aH
        have ar := aI
        have aA := aP
        have HB := aV
        clear aG aH aI aP aV
        refine start_ (n := 16) (S := fun w' => w'.cell? ⟨aK, 0, none⟩ = some (.int .i64 aL) ∧ w'.cell? ⟨aK, 1, none⟩ = some (.int .i64 aM) ∧ w'.cell? ⟨aK, 2, none⟩ = some (.int .i64 aN) ∧ w'.cell? ⟨aK, 3, none⟩ = some (.int .i64 aO) ∧ w'.cell? ⟨ap, 0, none⟩ = some (.int .i64 aR) ∧ w'.cell? ⟨ap, 1, none⟩ = some (.int .i64 aT) ∧ w'.cell? ⟨ap, 2, none⟩ = some (.int .i64 aU) ∧ w'.cell? ⟨ap, 3, none⟩ = some (.int .i64 aW)) (ds := []) #[false, false, false, false, false, false, false, false, false, false, false, false, false, false, false, false] (by kernel_rfl) rfl rfl ⟨(D_ ar.out 0).trans rfl, (D_ ar.out 1).trans rfl, (D_ ar.out 2).trans rfl, (D_ ar.out 3).trans rfl, (D_ aA.out 0).trans rfl, (D_ aA.out 1).trans rfl, (D_ aA.out 2).trans rfl, (D_ aA.out 3).trans rfl⟩ (fun hHeld => ?_); refine with_tabW pochoirlaw32_SampleAt.tab7 pochoirlaw32_SampleAt.bits7 (fun HT_ HW_ => ?_)
        generalize d1.drew = es at aa ag ar aA HB hHeld ⊢
        refine take_ (i := 0) (N := some 36) (v := ?_) (a' := ?_) #[true, false, false, false, false, false, false, false, false, false, false, false, false, false, false, false] rfl rfl (B1_ HT_.out HW_.out (by kernel_rfl)) (fun _ _ _ h => h) (Or.inl ⟨by rfl, ?_⟩) hHeld ?_ ?_
        rotate_left
        ·rintro w' ⟨s0, s1, s2, s3, s4, s5, s6, s7⟩
         go_simp
         with_reducible rfl
        rotate_left
        ·exact pA
        refine take_ (i := 1) (N := some 37) (v := ?_) (a' := ?_) #[true, true, false, false, false, false, false, false, false, false, false, false, false, false, false, false] rfl rfl (B1_ HT_.out HW_.out (by kernel_rfl)) (fun _ _ _ h => h) (Or.inl ⟨by rfl, ?_⟩) hHeld ?_ ?_
        rotate_left
        ·rintro w' ⟨s0, s1, s2, s3, s4, s5, s6, s7⟩
         go_simp
         with_reducible rfl
        rotate_left
        ·exact pA
        refine pure_ (i := 2) (N := some 38) (v := ?_) (a' := ?_) #[true, true, true, false, false, false, false, false, false, false, false, false, false, false, false, false] rfl rfl (A1_ HT_.out (by kernel_rfl)) (fun _ _ _ h => h) (Or.inl ⟨by rfl, ?_⟩) ?_ ?_
        rotate_left
        ·intro w'
         go_simp
         with_reducible rfl
        rotate_left
        ·exact pA
        refine pure_ (i := 3) (N := some 39) (v := ?_) (a' := ?_) #[true, true, true, true, false, false, false, false, false, false, false, false, false, false, false, false] rfl rfl (A1_ HT_.out (by kernel_rfl)) (fun _ _ _ h => h) (Or.inl ⟨by rfl, ?_⟩) ?_ ?_
        rotate_left
        ·intro w'
         go_simp
         with_reducible rfl
        rotate_left
        ·exact pA
        refine pure_ (i := 4) (N := some 40) (v := ?_) (a' := ?_) #[true, true, true, true, true, false, false, false, false, false, false, false, false, false, false, false] rfl rfl (A1_ HT_.out (by kernel_rfl)) (fun _ _ _ h => h) (Or.inl ⟨by rfl, ?_⟩) ?_ ?_
        rotate_left
        ·intro w'
         go_simp
         with_reducible rfl
        rotate_left
        ·exact pA
        refine pure_ (i := 5) (N := some 41) (v := ?_) (a' := ?_) #[true, true, true, true, true, true, false, false, false, false, false, false, false, false, false, false] rfl rfl (A1_ HT_.out (by kernel_rfl)) (fun _ _ _ h => h) (Or.inl ⟨by rfl, ?_⟩) ?_ ?_
        rotate_left
        ·intro w'
         go_simp
         with_reducible rfl
        rotate_left
        ·exact pA
        refine pure_ (i := 6) (N := some 42) (v := ?_) (a' := ?_) #[true, true, true, true, true, true, true, false, false, false, false, false, false, false, false, false] rfl rfl (A1_ HT_.out (by kernel_rfl)) (fun _ _ _ h => h) (Or.inl ⟨by rfl, ?_⟩) ?_ ?_
        rotate_left
        ·intro w'
         go_simp
         with_reducible rfl
        rotate_left
        ·exact pA
        refine pure_ (i := 7) (N := some 43) (v := ?_) (a' := ?_) #[true, true, true, true, true, true, true, true, false, false, false, false, false, false, false, false] rfl rfl (A1_ HT_.out (by kernel_rfl)) (fun _ _ _ h => h) (Or.inl ⟨by rfl, ?_⟩) ?_ ?_
        rotate_left
        ·intro w'
         go_simp
         with_reducible rfl
        rotate_left
        ·exact pA
        refine pure_ (i := 8) (N := some 44) (v := ?_) (a' := ?_) #[true, true, true, true, true, true, true, true, true, false, false, false, false, false, false, false] rfl rfl (A1_ HT_.out (by kernel_rfl)) (fun _ _ _ h => h) (Or.inl ⟨by rfl, ?_⟩) ?_ ?_
        rotate_left
        ·intro w'
         go_simp
         with_reducible rfl
        rotate_left
        ·exact pA
        refine take_ (i := 9) (N := some 45) (v := ?_) (a' := ?_) #[true, true, true, true, true, true, true, true, true, true, false, false, false, false, false, false] rfl rfl (B1_ HT_.out HW_.out (by kernel_rfl)) (fun _ _ _ h => h) (Or.inl ⟨by rfl, ?_⟩) hHeld ?_ ?_
        rotate_left
        ·rintro w' ⟨s0, s1, s2, s3, s4, s5, s6, s7⟩
         go_simp
         with_reducible rfl
        rotate_left
        ·exact pA
        refine take_ (i := 11) (N := some 47) (v := ?_) (a' := ?_) #[true, true, true, true, true, true, true, true, true, true, false, true, false, false, false, false] rfl rfl (B1_ HT_.out HW_.out (by kernel_rfl)) (fun _ _ _ h => h) (Or.inl ⟨by rfl, ?_⟩) hHeld ?_ ?_
        rotate_left
        ·rintro w' ⟨s0, s1, s2, s3, s4, s5, s6, s7⟩
         go_simp
         with_reducible rfl
        rotate_left
        ·exact pA
        refine one_ (i := 10) (N := some 46) #[true, true, true, true, true, true, true, true, true, true, true, true, false, false, false, false] rfl rfl (one_of HT_.out (by kernel_rfl)) (by decide) (fun K hK => ?_)
        refine goes_ Tryd.func10 (by kernel_rfl) rfl #[.agg #[.int .i64 aL, .int .i64 aM, .int .i64 aN, .int .i64 aO]] (by rfl) rfl rfl (by (try simp only [List.map_toArray, List.map_cons, List.map_nil]); first | done | rfl | (simp only [List.length_drop, List.length_take]; rfl)) ?_
        with_reducible refine (sample_Median.calls aL aM aN aO aS _ A14.out).mono ?_
        rintro e et ⟨rfl, hb⟩
        refine ⟨_, rfl, ?_⟩
        have aG := A_.mk (F_ (g := ac) (o := .cells #[.int .i64 ah, .int .i64 ai, .int .i64 aj, .int .i64 ak, .int .i64 al, .int .i64 am, .int .i64 an, .int .i64 ao, .slice aB ae.length aC, .slice aD af.length aE, .slice ax ad.length ay] 28 (0, 0)) (by refine kB ?_; exact aa.out) hb)
        have aH := A_.mk (F_ (g := az) (o := .cells #[.int .i64 au, .int .i64 av, .int .i64 aw] 29 (0, 0)) (by refine kB ?_; exact ag.out) hb)
        have aI := A_.mk (F_ (g := aK) (o := .cells #[.int .i64 aL, .int .i64 aM, .int .i64 aN, .int .i64 aO] 32 (0, 0)) (by refine kB ?_; exact ar.out) hb)
        have aP := A_.mk (F_ (g := ap) (o := .cells #[.int .i64 aR, .int .i64 aT, .int .i64 aU, .int .i64 aW] 32 (0, 0)) (by refine kB ?_; exact aA.out) hb)
        have aV := A_.mk (E_ (by exact lB HB.out) hb)
        clear aa
        clear ag
        clear ar
        clear aA
        clear HB
        have aa := aG
        have ag := aH
        have ar := aI
        have aA := aP
        have HB := aV
        clear aG aH aI aP aV
        (try clear hb)
        (try clear bF)
        (try clear hk)
        (try clear hi)
        refine hK.out _ _ ⟨(D_ ar.out 0).trans rfl, (D_ ar.out 1).trans rfl, (D_ ar.out 2).trans rfl, (D_ ar.out 3).trans rfl, (D_ aA.out 0).trans rfl, (D_ aA.out 1).trans rfl, (D_ aA.out 2).trans rfl, (D_ aA.out 3).trans rfl⟩ (fun hHeld => ?_)
        clear hK K
        refine norm_ (a' := ?_) ?_ ?_
        rotate_left
        ·show Act.put _ (some 46) _ = _
         exact pA
        refine one_ (i := 12) (N := some 48) #[true, true, true, true, true, true, true, true, true, true, true, true, true, false, false, false] rfl rfl (one_of HT_.out (by kernel_rfl)) (by decide) (fun K hK => ?_)
        refine goes_ Tryd.func11 (by kernel_rfl) rfl #[.agg #[.int .i64 aL, .int .i64 aM, .int .i64 aN, .int .i64 aO]] (by rfl) rfl rfl (by (try simp only [List.map_toArray, List.map_cons, List.map_nil]); first | done | rfl | (simp only [List.length_drop, List.length_take]; rfl)) ?_
        with_reducible refine (pochoirref32_Median.calls aL aM aN aO aQ _ A15.out).mono ?_
        rintro e eu ⟨rfl, hb⟩
        refine ⟨_, rfl, ?_⟩
        have aG := A_.mk (F_ (g := ac) (o := .cells #[.int .i64 ah, .int .i64 ai, .int .i64 aj, .int .i64 ak, .int .i64 al, .int .i64 am, .int .i64 an, .int .i64 ao, .slice aB ae.length aC, .slice aD af.length aE, .slice ax ad.length ay] 28 (0, 0)) (by refine kB ?_; exact aa.out) hb)
        have aH := A_.mk (F_ (g := az) (o := .cells #[.int .i64 au, .int .i64 av, .int .i64 aw] 29 (0, 0)) (by refine kB ?_; exact ag.out) hb)
        have aI := A_.mk (F_ (g := aK) (o := .cells #[.int .i64 aL, .int .i64 aM, .int .i64 aN, .int .i64 aO] 32 (0, 0)) (by refine kB ?_; exact ar.out) hb)
        have aP := A_.mk (F_ (g := ap) (o := .cells #[.int .i64 aR, .int .i64 aT, .int .i64 aU, .int .i64 aW] 32 (0, 0)) (by refine kB ?_; exact aA.out) hb)
        have aV := A_.mk (E_ (by exact lB HB.out) hb)
        clear aa
        clear ag
        clear ar
        clear aA
        clear HB
        have aa := aG
        have ag := aH
        have ar := aI
        have aA := aP
        have HB := aV
        clear aG aH aI aP aV
        (try clear hb)
        (try clear bF)
        (try clear hk)
        (try clear hi)
        refine hK.out _ _ ⟨(D_ ar.out 0).trans rfl, (D_ ar.out 1).trans rfl, (D_ ar.out 2).trans rfl, (D_ ar.out 3).trans rfl, (D_ aA.out 0).trans rfl, (D_ aA.out 1).trans rfl, (D_ aA.out 2).trans rfl, (D_ aA.out 3).trans rfl⟩ (fun hHeld => ?_)
        clear hK K
        refine norm_ (a' := ?_) ?_ ?_
        rotate_left
        ·show Act.put _ (some 48) _ = _
         exact pA
        refine pure_ (i := 13) (N := some 49) (v := ?_) (a' := ?_) #[true, true, true, true, true, true, true, true, true, true, true, true, true, true, false, false] rfl rfl (A1_ HT_.out (by kernel_rfl)) (fun _ _ _ h => h) (Or.inl ⟨by rfl, ?_⟩) ?_ ?_
        rotate_left
        ·intro w'
         go_simp
         with_reducible rfl
        rotate_left
        ·exact pA
        refine pure_ (i := 14) (N := some 50) (v := ?_) (a' := ?_) #[true, true, true, true, true, true, true, true, true, true, true, true, true, true, true, false] rfl rfl (A1_ HT_.out (by kernel_rfl)) (fun _ _ _ h => h) (Or.inl ⟨by rfl, ?_⟩) ?_ ?_
        rotate_left
        ·intro w'
         go_simp
         with_reducible rfl
        rotate_left
        ·exact pA
        refine pure_ (i := 15) (N := some 4) (v := ?_) (a' := ?_) #[true, true, true, true, true, true, true, true, true, true, true, true, true, true, true, true] rfl rfl (A1_ HT_.out (by kernel_rfl)) (fun _ _ _ h => h) (Or.inl ⟨by rfl, ?_⟩) ?_ ?_
        rotate_left
        ·intro w'
         go_simp
         with_reducible rfl
        rotate_left
        ·exact pA
        refine done_ (done_of HT_.out (by kernel_rfl)) ?_
        try go_wp2
        go_ret
        exact ⟨by first | rfl | (simp [errW_none, errW_some] <;> rfl) | (simp [*, errW_none, errW_some] <;> rfl), by exact lB HB.out⟩
       ·rw [if_neg c13] at H
        have bX : (bh == bo) = false := beq_eq_false_iff_ne.mpr c13
        have bY : (bh != bo) = true := bne_iff_ne.mpr c13
        obtain rfl := Option.some.inj H
        exact absurd HKP.out (by decide)
      ·rw [if_neg c12] at H
       have bV : (aO == aW) = false := beq_eq_false_iff_ne.mpr c12
       have bW : (aO != aW) = true := bne_iff_ne.mpr c12
       obtain rfl := Option.some.inj H
       exact absurd HKP.out (by decide)
     ·rw [if_neg c11] at H
      have bT : (aN == aU) = false := beq_eq_false_iff_ne.mpr c11
      have bU : (aN != aU) = true := bne_iff_ne.mpr c11
      obtain rfl := Option.some.inj H
      exact absurd HKP.out (by decide)
    ·rw [if_neg c10] at H
     have bR : (aM == aT) = false := beq_eq_false_iff_ne.mpr c10
     have bS : (aM != aT) = true := bne_iff_ne.mpr c10
     obtain rfl := Option.some.inj H
     exact absurd HKP.out (by decide)
   ·rw [if_neg c9] at H
    have b3 : (aL == aR) = false := beq_eq_false_iff_ne.mpr c9
    have b4 : (aL != aR) = true := bne_iff_ne.mpr c9
    obtain rfl := Option.some.inj H
    exact absurd HKP.out (by decide)
  ·replace c6 := Bool.eq_false_iff.mpr c6
   subst c6
   have H1 : (some true) = some r := by rw [if_neg (show ¬ (false = true) by decide)] at H; exact H
   clear H
   have H := H1
   clear H1
   obtain rfl := Option.some.inj H
   go_enter Tryd.func3, Tryd.ntmps3
   go_wp2_with (first | ((with_reducible refine O_ (N := 2) rfl ?_); refine N_ ?hg (N := 2) ?hd (cs := #[.int .i64 ah, .int .i64 ai, .int .i64 aj, .int .i64 ak, .int .i64 al, .int .i64 am, .int .i64 an, .int .i64 ao, .slice aB ae.length aC, .slice aD af.length aE, .slice ax ad.length ay]) (t := 28) ?hr ?_; (case hd => rfl); (case hg => rfl); (case hr => first | (go_simp; done) | (go_simp; rfl)); intro ac hg el hbox hb; have aG := A_.mk (E_ (by exact lB HB.out) hb); have aH := A_.mk (hbox); have aI := A_.mk ((by rw [hg]; exact (G_ (by exact lB HB.out)) : w.heap.size ≤ ac)); have aP := A_.mk ((by rw [hg]; exact (G_ (by exact lB HB.out)) : w.heap.size ≤ ac)); clear HB; have HB := aG; have aa := aH; have bZ := aI; have aF := aP; clear aG aH aI aP; clear hb hbox hg) | ((with_reducible refine O_ (N := 3) rfl ?_); refine N_ ?hg (N := 3) ?hd (cs := #[.int .i64 au, .int .i64 av, .int .i64 aw]) (t := 29) ?hr ?_; (case hd => rfl); (case hg => rfl); (case hr => first | (go_simp; done) | (go_simp; rfl)); intro az hg em hbox hb; have aG := A_.mk (F_ (g := ac) (o := .cells #[.int .i64 ah, .int .i64 ai, .int .i64 aj, .int .i64 ak, .int .i64 al, .int .i64 am, .int .i64 an, .int .i64 ao, .slice aB ae.length aC, .slice aD af.length aE, .slice ax ad.length ay] 28 (0, 0)) (by refine kB ?_; exact aa.out) hb); have aH := A_.mk (E_ (by exact lB HB.out) hb); have aI := A_.mk (hbox); have aP := A_.mk ((by rw [hg]; exact (G_ (by exact lB HB.out)) : w.heap.size ≤ az)); have aV := A_.mk ((by rw [hg]; exact (G_ (by exact lB HB.out)) : w.heap.size ≤ az)); have bi := A_.mk ((by rw [hg]; exact Nat.ne_of_lt (M_ (g := ac) (o := .cells #[.int .i64 ah, .int .i64 ai, .int .i64 aj, .int .i64 ak, .int .i64 al, .int .i64 am, .int .i64 an, .int .i64 ao, .slice aB ae.length aC, .slice aD af.length aE, .slice ax ad.length ay] 28 (0, 0)) (by refine kB ?_; exact aa.out)) : ac ≠ az)); have bj := A_.mk ((by rw [hg]; exact Nat.ne_of_gt (M_ (g := ac) (o := .cells #[.int .i64 ah, .int .i64 ai, .int .i64 aj, .int .i64 ak, .int .i64 al, .int .i64 am, .int .i64 an, .int .i64 ao, .slice aB ae.length aC, .slice aD af.length aE, .slice ax ad.length ay] 28 (0, 0)) (by refine kB ?_; exact aa.out)) : az ≠ ac)); clear aa; clear HB; have aa := aG; have HB := aH; have ag := aI; have b0 := aP; have aJ := aV; have bk := bi; have bl := bj; clear aG aH aI aP aV bi bj; clear hb hbox hg) | ((with_reducible refine P_ (f := 6) rfl ?_); refine R_ (some 9) rfl rfl Tryd.func6 (by kernel_rfl) rfl #[] rfl (by (try simp only [List.map_toArray, List.map_cons, List.map_nil]); first | done | rfl | (simp only [List.length_drop, List.length_take]; rfl)) ?_; (with_reducible refine (pochoirlaw32_awake.calls k  true _ A3.out (hTab.below (by exact lB HB.out))).mono ?_); rintro e be ⟨rfl, hb⟩; refine ⟨_, rfl, ?_⟩; have aG := A_.mk (F_ (g := ac) (o := .cells #[.int .i64 ah, .int .i64 ai, .int .i64 aj, .int .i64 ak, .int .i64 al, .int .i64 am, .int .i64 an, .int .i64 ao, .slice aB ae.length aC, .slice aD af.length aE, .slice ax ad.length ay] 28 (0, 0)) (by refine kB ?_; exact aa.out) hb); have aH := A_.mk (F_ (g := az) (o := .cells #[.int .i64 au, .int .i64 av, .int .i64 aw] 29 (0, 0)) (by refine kB ?_; exact ag.out) hb); have aI := A_.mk (E_ (by exact lB HB.out) hb); clear aa; clear ag; clear HB; have aa := aG; have ag := aH; have HB := aI; clear aG aH aI; (try clear hb); (try clear bF); (try clear hk); (try clear hi); have d2 := bk.out; have d3 := bl.out; have cb : be.cell? ⟨ac, 0, none⟩ = some (.int .i64 ah) := (D_ aa.out 0).trans rfl; have cc : be.cell? ⟨ac, 1, none⟩ = some (.int .i64 ai) := (D_ aa.out 1).trans rfl; have cd : be.cell? ⟨ac, 2, none⟩ = some (.int .i64 aj) := (D_ aa.out 2).trans rfl; have ce : be.cell? ⟨ac, 3, none⟩ = some (.int .i64 ak) := (D_ aa.out 3).trans rfl; have cf : be.cell? ⟨ac, 4, none⟩ = some (.int .i64 al) := (D_ aa.out 4).trans rfl; have cg : be.cell? ⟨ac, 5, none⟩ = some (.int .i64 am) := (D_ aa.out 5).trans rfl; have ch : be.cell? ⟨ac, 6, none⟩ = some (.int .i64 an) := (D_ aa.out 6).trans rfl; have ci : be.cell? ⟨ac, 7, none⟩ = some (.int .i64 ao) := (D_ aa.out 7).trans rfl; have cj : be.cell? ⟨ac, 8, none⟩ = some (.slice aB ae.length aC) := (D_ aa.out 8).trans rfl; have ck : be.cell? ⟨ac, 9, none⟩ = some (.slice aD af.length aE) := (D_ aa.out 9).trans rfl; have b1 : be.cell? ⟨ac, 10, none⟩ = some (.slice ax ad.length ay) := (D_ aa.out 10).trans rfl; have cl := B_ aa.out 0; have cm := B_ aa.out 1; have cn := B_ aa.out 2; have co := B_ aa.out 3; have cp := B_ aa.out 4; have cq := B_ aa.out 5; have cr := B_ aa.out 6; have ct := B_ aa.out 7; have cu := B_ aa.out 8; have cv := B_ aa.out 9; have b2 := B_ aa.out 10) | ((with_reducible refine P_ (f := 7) rfl ?_); refine R_ (some 12) rfl rfl Tryd.func7 (by kernel_rfl) rfl #[.agg #[.int .i64 ah, .int .i64 ai, .int .i64 aj, .int .i64 ak, .int .i64 al, .int .i64 am, .int .i64 an, .int .i64 ao, .slice aB ae.length aC, .slice aD af.length aE, .slice ax ad.length ay]] rfl (by (try simp only [List.map_toArray, List.map_cons, List.map_nil]); first | done | rfl | (simp only [List.length_drop, List.length_take]; rfl)) ?_; (with_reducible refine (pochoirlaw30_Few.calls k ah ai aj ak al am an ao _ _ ae _ _ af _ _ ad false _ ?side1 ?side2 ?side3 ?side4 ?side5 ?side6 A5.out).mono ?_); (case side1 => repeat (first | exact (Kd.C_below bA.out HB.out) | (with_reducible refine Kd.C_alloc ?_ _) | (with_reducible refine Kd.C_drewN ?_ _) | (with_reducible refine Kd.C_drew ?_))); (case side2 => exact bB.out); (case side3 => repeat (first | exact (Kd.C_below bC.out HB.out) | (with_reducible refine Kd.C_alloc ?_ _) | (with_reducible refine Kd.C_drewN ?_ _) | (with_reducible refine Kd.C_drew ?_))); (case side4 => exact bD.out); (case side5 => repeat (first | exact (Kd.C_below br.out HB.out) | (with_reducible refine Kd.C_alloc ?_ _) | (with_reducible refine Kd.C_drewN ?_ _) | (with_reducible refine Kd.C_drew ?_))); (case side6 => exact bs.out); rintro e en ⟨rfl, hb⟩; refine ⟨_, rfl, ?_⟩; have aG := A_.mk (F_ (g := ac) (o := .cells #[.int .i64 ah, .int .i64 ai, .int .i64 aj, .int .i64 ak, .int .i64 al, .int .i64 am, .int .i64 an, .int .i64 ao, .slice aB ae.length aC, .slice aD af.length aE, .slice ax ad.length ay] 28 (0, 0)) (by refine kB ?_; exact aa.out) hb); have aH := A_.mk (F_ (g := az) (o := .cells #[.int .i64 au, .int .i64 av, .int .i64 aw] 29 (0, 0)) (by refine kB ?_; exact ag.out) hb); have aI := A_.mk (E_ (by exact lB HB.out) hb); clear aa; clear ag; clear HB; have aa := aG; have ag := aH; have HB := aI; clear aG aH aI; (try clear hb); (try clear bF); (try clear hk); (try clear hi)))
   go_ret
   exact ⟨by first | rfl | (simp [errW_none, errW_some] <;> rfl) | (simp [*, errW_none, errW_some] <;> rfl), by exact lB HB.out⟩
 ·replace c4 := Bool.eq_false_iff.mpr c4
  subst c4
  have H1 : (some false) = some r := by rw [if_neg (show ¬ (false = true) by decide)] at H; exact H
  clear H
  have H := H1
  clear H1
  obtain rfl := Option.some.inj H
  exact absurd HKP.out (by decide)
def pochoirlaw32_SampleAt.f (k : Nat) (ah : Int) (ai : Int) (aj : Int) (ak : Int) (al : Int) (am : Int) (an : Int) (ao : Int) (ae : List (S54)) (af : List (S84)) (ad : List ByteArray) (au : Int) (av : Int) (aw : Int) : Option (Bool) := (pochoirlaw32_SampleAt.g k ah ai aj ak al am an ao ae af ad au av aw).bind fun b => if b = true then some true else none
theorem pochoirlaw32_SampleAt.mono : ∀ ah ai aj ak al am an ao ae af ad au av aw k, LeO (pochoirlaw32_SampleAt.f k ah ai aj ak al am an ao ae af ad au av aw) (pochoirlaw32_SampleAt.f (k + 1) ah ai aj ak al am an ao ae af ad au av aw) := fun ah ai aj ak al am an ao ae af ad au av aw k => LeO.bind (pochoirlaw32_SampleAt.gmono ah ai aj ak al am an ao ae af ad au av aw k) (fun _ => LeO.refl _)
theorem pochoirlaw32_SampleAt.calls (k : Nat) (ah : Int) (ai : Int) (aj : Int) (ak : Int) (al : Int) (am : Int) (an : Int) (ao : Int) (aB : Option Addr) (aC : Nat) (ae : List (S54)) (aD : Option Addr) (aE : Nat) (af : List (S84)) (ax : Option Addr) (ay : Nat) (ad : List ByteArray) (au : Int) (av : Int) (aw : Int) (r : Bool) (w : World) (bv : Kd.C k54 w aB ae.length ae) (bw : ae.length ≤ aC) (bx : Kd.C k84 w aD af.length af) (bz : af.length ≤ aE) (bp : Kd.C Kd.string w ax ad.length ad) (bq : ad.length ≤ ay) (h : pochoirlaw32_SampleAt.f k ah ai aj ak al am an ao ae af ad au av aw = some r) (hTab : HasTab w) :
  Calls Tryd.prog 3 #[.agg #[.int .i64 ah, .int .i64 ai, .int .i64 aj, .int .i64 ak, .int .i64 al, .int .i64 am, .int .i64 an, .int .i64 ao, .slice aB ae.length aC, .slice aD af.length aE, .slice ax ad.length ay], .agg #[.int .i64 au, .int .i64 av, .int .i64 aw]] w fun e w' => e = .returned (.bool r) ∧ Below w.heap.size w w' := by
 have h' := h
 unfold pochoirlaw32_SampleAt.f at h'
 obtain ⟨b, hb, h'⟩ := Option.bind_eq_some_iff.mp h'
 split at h'
 ·rename_i hbt
  obtain rfl := Option.some.inj h'
  rw [hbt] at hb
  exact pochoirlaw32_SampleAt.gcalls k ah ai aj ak al am an ao aB aC ae aD aE af ax ay ad au av aw true w bv bw bx bz bp bq rfl hb hTab
 ·cases h'

end Go.Proofs.YtjcgmjhcaaaieaaDoor.Pr
