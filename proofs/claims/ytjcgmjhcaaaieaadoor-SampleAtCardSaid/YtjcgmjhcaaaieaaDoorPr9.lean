-- printed by a program of this session's (wip/mp.sh), out of the translation; the texts of its folder 'given' are typed by hand
-- shortened (wip/short.py)
import Derived.Test.YtjcgmjhcaaaieaaDoorPr0
import Derived.Test.YtjcgmjhcaaaieaaDoorPr5
import Derived.Test.YtjcgmjhcaaaieaaDoorPr7
import Derived.Test.YtjcgmjhcaaaieaaDoorPr8
namespace Go.Proofs.YtjcgmjhcaaaieaaDoor.Pr
open Go.RowKit Go.Proofs.YtjcgmjhcaaaieaaDoorW.PrintWords Go.Proofs.YtjcgmjhcaaaieaaDoorW.PrintLast Go.Proofs.YtjcgmjhcaaaieaaDoorW.PrintMore
attribute [local go_sem] max2_int min2_int max_two min_two max_three min_three max_four min_four   -- for this text's walks alone
attribute [local go_sem high] eqA32
set_option linter.unusedVariables false
set_option linter.unusedSimpArgs false

/-! ### atlas_May: function 16 -/
mutual
def atlas_May.l0 : Nat → List ByteArray → Int → Int → Int → Int → Int → Int → Int → Int → Int → Int → List (S54) → List (S84) → List ByteArray → Option (Bool)
 | 0, _, _, _, _, _, _, _, _, _, _, _, _, _, _ => none
 | k + 1, dB, dH, bw, aY, aZ, ba, bb, bc, bd, aQ, aR, aG, aS, aT => if bw < dH then (if 0 ≤ bw then (if bw < (dB.length : Int) then (if ((rdOf ByteArray.empty dB bw).size : Int) = (wrap64 ((wrap64 (4 * aQ)) * aR)) then (atlas_May.l0 k dB dH (wrap64 (bw + 1)) aY aZ ba bb bc bd aQ aR aG aS aT) else (some false)) else (none)) else (none)) else (atlas_May.l1 k aG (aG.length : Int) 0 aY aZ ba bb bc bd aQ aR aG aS aT)
def atlas_May.l1 : Nat → List (S54) → Int → Int → Int → Int → Int → Int → Int → Int → Int → Int → List (S54) → List (S84) → List ByteArray → Option (Bool)
 | 0, _, _, _, _, _, _, _, _, _, _, _, _, _, _ => none
 | k + 1, be, dI, aU, aY, aZ, ba, bb, bc, bd, aQ, aR, aG, aS, aT => if aU < dI then (if 0 ≤ aU then (if aU < (be.length : Int) then ((atlas_entry.f k ((Z_ be aU).f0) ((Z_ be aU).f1.f0) ((Z_ be aU).f1.f1) ((Z_ be aU).f1.f2) ((Z_ be aU).f1.f3) ((Z_ be aU).f2.f0) ((Z_ be aU).f2.f1) ((Z_ be aU).f2.f2) aQ aR (aT.length : Int)).bind fun br => (if br = true then (atlas_May.l1 k be dI (wrap64 (aU + 1)) aY aZ ba bb bc bd aQ aR aG aS aT) else (some false))) else (none)) else (none)) else ((cmap_May.f k aS (aG.length : Int)).bind fun bs => (some bs))
end
def atlas_May.f (k : Nat) (ak : Int) (al : Int) (am : Int) (an : Int) (ao : Int) (ap : Int) (af : Int) (ag : Int) (ab : List (S54)) (ai : List (S84)) (ae : List ByteArray) : Option (Bool) := (atlas_numbers.f ak al am an ao ap af ag ab ai ae).bind fun bh => (if bh = true then (atlas_May.l0 k ae (ae.length : Int) 0 ak al am an ao ap af ag ab ai ae) else (some false))
theorem atlas_May.mono_l : ∀ k, (∀ y0 y1 y2 y3 y4 y5 y6 y7 y8 y9 bj bk bl bm, LeO (atlas_May.l0 k y0 y1 y2 y3 y4 y5 y6 y7 y8 y9 bj bk bl bm) (atlas_May.l0 (k + 1) y0 y1 y2 y3 y4 y5 y6 y7 y8 y9 bj bk bl bm)) ∧ (∀ y0 y1 y2 y3 y4 y5 y6 y7 y8 y9 bj bk bl bm, LeO (atlas_May.l1 k y0 y1 y2 y3 y4 y5 y6 y7 y8 y9 bj bk bl bm) (atlas_May.l1 (k + 1) y0 y1 y2 y3 y4 y5 y6 y7 y8 y9 bj bk bl bm))
 | 0 => ⟨fun _ _ _ _ _ _ _ _ _ _ _ _ _ _ r h => by simp [atlas_May.l0] at h, fun _ _ _ _ _ _ _ _ _ _ _ _ _ _ r h => by simp [atlas_May.l1] at h⟩
 | k + 1 => by
  obtain ⟨ih0, ih1⟩ := atlas_May.mono_l k
  refine ⟨?_, ?_⟩
  ·intro y0 y1 y2 y3 y4 y5 y6 y7 y8 y9 bj bk bl bm
   unfold atlas_May.l0
   repeat' first
   | (with_reducible exact ih0 _ _ _ _ _ _ _ _ _ _ _ _ _ _)
   | (with_reducible exact ih1 _ _ _ _ _ _ _ _ _ _ _ _ _ _)
   | (with_reducible exact atlas_entry.mono _ _ _ _ _ _ _ _ _ _ _ _)
   | (with_reducible exact cmap_May.mono _ _ _)
   | (with_reducible exact LeO.refl _)
   | (with_reducible exact LeO.none _)
   | (with_reducible refine LeO.ite ?_ ?_)
   | (with_reducible refine LeO.bind ?_ (fun _ => ?_))
   | exact ih0 _ _ _ _ _ _ _ _ _ _ _ _ _ _
   | exact ih1 _ _ _ _ _ _ _ _ _ _ _ _ _ _
   | exact atlas_entry.mono _ _ _ _ _ _ _ _ _ _ _ _
   | exact cmap_May.mono _ _ _
   | exact LeO.none _
   | refine LeO.ite ?_ ?_
   | refine LeO.bind ?_ (fun _ => ?_)
  ·intro y0 y1 y2 y3 y4 y5 y6 y7 y8 y9 bj bk bl bm
   unfold atlas_May.l1
   repeat' first
   | (with_reducible exact ih0 _ _ _ _ _ _ _ _ _ _ _ _ _ _)
   | (with_reducible exact ih1 _ _ _ _ _ _ _ _ _ _ _ _ _ _)
   | (with_reducible exact atlas_entry.mono _ _ _ _ _ _ _ _ _ _ _ _)
   | (with_reducible exact cmap_May.mono _ _ _)
   | (with_reducible exact LeO.refl _)
   | (with_reducible exact LeO.none _)
   | (with_reducible refine LeO.ite ?_ ?_)
   | (with_reducible refine LeO.bind ?_ (fun _ => ?_))
   | exact ih0 _ _ _ _ _ _ _ _ _ _ _ _ _ _
   | exact ih1 _ _ _ _ _ _ _ _ _ _ _ _ _ _
   | exact atlas_entry.mono _ _ _ _ _ _ _ _ _ _ _ _
   | exact cmap_May.mono _ _ _
   | exact LeO.none _
   | refine LeO.ite ?_ ?_
   | refine LeO.bind ?_ (fun _ => ?_)
theorem atlas_May.mono : ∀ a0 a1 a2 a3 a4 a5 a6 a7 a8 a9 a10 k, LeO (atlas_May.f k a0 a1 a2 a3 a4 a5 a6 a7 a8 a9 a10) (atlas_May.f (k + 1) a0 a1 a2 a3 a4 a5 a6 a7 a8 a9 a10) := by
 intro a0 a1 a2 a3 a4 a5 a6 a7 a8 a9 a10 k
 obtain ⟨ih0, ih1⟩ := atlas_May.mono_l k
 unfold atlas_May.f
 repeat' first
   | (with_reducible exact ih0 _ _ _ _ _ _ _ _ _ _ _ _ _ _)
   | (with_reducible exact ih1 _ _ _ _ _ _ _ _ _ _ _ _ _ _)
   | (with_reducible exact atlas_entry.mono _ _ _ _ _ _ _ _ _ _ _ _)
   | (with_reducible exact cmap_May.mono _ _ _)
   | (with_reducible exact LeO.refl _)
   | (with_reducible exact LeO.none _)
   | (with_reducible refine LeO.ite ?_ ?_)
   | (with_reducible refine LeO.bind ?_ (fun _ => ?_))
   | exact ih0 _ _ _ _ _ _ _ _ _ _ _ _ _ _
   | exact ih1 _ _ _ _ _ _ _ _ _ _ _ _ _ _
   | exact atlas_entry.mono _ _ _ _ _ _ _ _ _ _ _ _
   | exact cmap_May.mono _ _ _
   | exact LeO.none _
   | refine LeO.ite ?_ ?_
   | refine LeO.bind ?_ (fun _ => ?_)
set_option maxHeartbeats 8000000 in
set_option maxRecDepth 100000 in
theorem atlas_May.calls (k : Nat) (ak : Int) (al : Int) (am : Int) (an : Int) (ao : Int) (ap : Int) (af : Int) (ag : Int) (aC : Option Addr) (ax : Nat) (ab : List (S54)) (av : Option Addr) (aw : Nat) (ai : List (S84)) (au : Option Addr) (aq : Nat) (ae : List ByteArray) (r : Bool) (w : World) (co : Kd.C k54 w aC ab.length ab) (cp : ab.length ≤ ax) (cq : Kd.C k84 w av ai.length ai) (cr : ai.length ≤ aw) (bx : Kd.C Kd.string w au ae.length ae) (bz : ae.length ≤ aq) (h : atlas_May.f k ak al am an ao ap af ag ab ai ae = some r) :
  Calls Tryd.prog 16 #[.agg #[.int .i64 ak, .int .i64 al, .int .i64 am, .int .i64 an, .int .i64 ao, .int .i64 ap, .int .i64 af, .int .i64 ag, .slice aC ab.length ax, .slice av ai.length aw, .slice au ae.length aq]] w fun e w' => e = .returned (.bool r) ∧ Below w.heap.size w w' := by
 have fN := Tryd.underlying28
 have fO := Tryd.underlying54
 have fP := Tryd.underlying23
 have bi := A_.mk co
 have ct := A_.mk cp
 clear co cp
 have bu := A_.mk cq
 have bv := A_.mk cr
 clear cq cr
 have bf := A_.mk bx
 have bA := A_.mk bz
 clear bx bz
 have HB := A_.mk (Below.refl w.heap.size w)
 have H : ((atlas_numbers.f ak al am an ao ap af ag ab ai ae).bind fun bh => (if bh = true then (atlas_May.l0 k ae (ae.length : Int) 0 ak al am an ao ap af ag ab ai ae) else (some false))) = some r := h
 clear h
 replace H := Option.bind_eq_some_iff.mp H
 obtain ⟨bh, A20, H⟩ := H
 replace H : (if bh = true then (atlas_May.l0 k ae (ae.length : Int) 0 ak al am an ao ap af ag ab ai ae) else (some false)) = some r := H
 have A2 := A_.mk A20
 clear A20
 by_cases c3 : bh = true
 ·subst c3
  have H1 : (atlas_May.l0 k ae (ae.length : Int) 0 ak al am an ao ap af ag ab ai ae) = some r := by rw [if_pos rfl] at H; exact H
  clear H
  have H := H1
  clear H1
  have H' := A_.mk H
  clear H
  go_enter Tryd.func16, Tryd.ntmps16
  go_wp2_with (first | ((with_reducible refine O_ (N := 1) rfl ?_); refine N_ ?hg (N := 1) ?hd (cs := #[.int .i64 ak, .int .i64 al, .int .i64 am, .int .i64 an, .int .i64 ao, .int .i64 ap, .int .i64 af, .int .i64 ag, .slice aC ab.length ax, .slice av ai.length aw, .slice au ae.length aq]) (t := 28) ?hr ?_; (case hd => rfl); (case hg => rfl); (case hr => first | (go_simp; done) | (go_simp; rfl)); intro ad hg w4 hbox hb; have aA := A_.mk (E_ (by exact lB HB.out) hb); have aB := A_.mk (hbox); have aP := A_.mk ((by rw [hg]; exact (G_ (by exact lB HB.out)) : w.heap.size ≤ ad)); have aV := A_.mk ((by rw [hg]; exact (G_ (by exact lB HB.out)) : w.heap.size ≤ ad)); clear HB; have HB := aA; have aa := aB; have dD := aP; have az := aV; clear aA aB aP aV; clear hb hbox hg; have bB : w4.cell? ⟨ad, 0, none⟩ = some (.int .i64 ak) := (D_ aa.out 0).trans rfl; have bC : w4.cell? ⟨ad, 1, none⟩ = some (.int .i64 al) := (D_ aa.out 1).trans rfl; have bD : w4.cell? ⟨ad, 2, none⟩ = some (.int .i64 am) := (D_ aa.out 2).trans rfl; have bE : w4.cell? ⟨ad, 3, none⟩ = some (.int .i64 an) := (D_ aa.out 3).trans rfl; have bF : w4.cell? ⟨ad, 4, none⟩ = some (.int .i64 ao) := (D_ aa.out 4).trans rfl; have bG : w4.cell? ⟨ad, 5, none⟩ = some (.int .i64 ap) := (D_ aa.out 5).trans rfl; have bH : w4.cell? ⟨ad, 6, none⟩ = some (.int .i64 af) := (D_ aa.out 6).trans rfl; have bI : w4.cell? ⟨ad, 7, none⟩ = some (.int .i64 ag) := (D_ aa.out 7).trans rfl; have bJ : w4.cell? ⟨ad, 8, none⟩ = some (.slice aC ab.length ax) := (D_ aa.out 8).trans rfl; have bK : w4.cell? ⟨ad, 9, none⟩ = some (.slice av ai.length aw) := (D_ aa.out 9).trans rfl; have bn : w4.cell? ⟨ad, 10, none⟩ = some (.slice au ae.length aq) := (D_ aa.out 10).trans rfl; have bL := B_ aa.out 0; have bM := B_ aa.out 1; have bN := B_ aa.out 2; have bO := B_ aa.out 3; have bP := B_ aa.out 4; have bQ := B_ aa.out 5; have bR := B_ aa.out 6; have bS := B_ aa.out 7; have bT := B_ aa.out 8; have bU := B_ aa.out 9; have bo := B_ aa.out 10) | ((with_reducible refine P_ (f := 29) rfl ?_); refine R_ (some 8) rfl rfl Tryd.func29 (by kernel_rfl) rfl #[.agg #[.int .i64 ak, .int .i64 al, .int .i64 am, .int .i64 an, .int .i64 ao, .int .i64 ap, .int .i64 af, .int .i64 ag, .slice aC ab.length ax, .slice av ai.length aw, .slice au ae.length aq]] rfl (by (try simp only [List.map_toArray, List.map_cons, List.map_nil]); first | done | rfl | (simp only [List.length_drop, List.length_take]; rfl)) ?_; (with_reducible refine (atlas_numbers.calls ak al am an ao ap af ag _ _ ab _ _ ai _ _ ae true _ ?side1 ?side2 ?side3 ?side4 ?side5 ?side6 A2.out).mono ?_); (case side1 => repeat (first | exact (Kd.C_below bi.out HB.out) | (with_reducible refine Kd.C_alloc ?_ _) | (with_reducible refine Kd.C_drewN ?_ _) | (with_reducible refine Kd.C_drew ?_))); (case side2 => exact ct.out); (case side3 => repeat (first | exact (Kd.C_below bu.out HB.out) | (with_reducible refine Kd.C_alloc ?_ _) | (with_reducible refine Kd.C_drewN ?_ _) | (with_reducible refine Kd.C_drew ?_))); (case side4 => exact bv.out); (case side5 => repeat (first | exact (Kd.C_below bf.out HB.out) | (with_reducible refine Kd.C_alloc ?_ _) | (with_reducible refine Kd.C_drewN ?_ _) | (with_reducible refine Kd.C_drew ?_))); (case side6 => exact bA.out); rintro e w6 ⟨rfl, hb⟩; refine ⟨_, rfl, ?_⟩; have aA := A_.mk (F_ (g := ad) (o := .cells #[.int .i64 ak, .int .i64 al, .int .i64 am, .int .i64 an, .int .i64 ao, .int .i64 ap, .int .i64 af, .int .i64 ag, .slice aC ab.length ax, .slice av ai.length aw, .slice au ae.length aq] 28 (0, 0)) (by refine kB ?_; exact aa.out) hb); have aB := A_.mk (E_ (by exact lB HB.out) hb); clear aa; clear HB; have aa := aA; have HB := aB; clear aA aB; (try clear hb); (try clear cu); (try clear hk); (try clear hi); have bV : w6.cell? ⟨ad, 0, none⟩ = some (.int .i64 ak) := (D_ aa.out 0).trans rfl; have bW : w6.cell? ⟨ad, 1, none⟩ = some (.int .i64 al) := (D_ aa.out 1).trans rfl; have bX : w6.cell? ⟨ad, 2, none⟩ = some (.int .i64 am) := (D_ aa.out 2).trans rfl; have bY : w6.cell? ⟨ad, 3, none⟩ = some (.int .i64 an) := (D_ aa.out 3).trans rfl; have bZ : w6.cell? ⟨ad, 4, none⟩ = some (.int .i64 ao) := (D_ aa.out 4).trans rfl; have b0 : w6.cell? ⟨ad, 5, none⟩ = some (.int .i64 ap) := (D_ aa.out 5).trans rfl; have b1 : w6.cell? ⟨ad, 6, none⟩ = some (.int .i64 af) := (D_ aa.out 6).trans rfl; have b2 : w6.cell? ⟨ad, 7, none⟩ = some (.int .i64 ag) := (D_ aa.out 7).trans rfl; have b3 : w6.cell? ⟨ad, 8, none⟩ = some (.slice aC ab.length ax) := (D_ aa.out 8).trans rfl; have b4 : w6.cell? ⟨ad, 9, none⟩ = some (.slice av ai.length aw) := (D_ aa.out 9).trans rfl; have bp : w6.cell? ⟨ad, 10, none⟩ = some (.slice au ae.length aq) := (D_ aa.out 10).trans rfl; have b5 := B_ aa.out 0; have b6 := B_ aa.out 1; have b7 := B_ aa.out 2; have b8 := B_ aa.out 3; have b9 := B_ aa.out 4; have ca := B_ aa.out 5; have cb := B_ aa.out 6; have cc := B_ aa.out 7; have cd := B_ aa.out 8; have ce := B_ aa.out 9; have bq := B_ aa.out 10))
  go_loopg [13] k (fun kq v13 w' => ∃ (ay : Int), v13 = .int .i64 ay ∧ A_ (atlas_May.l0 kq ae (ae.length : Int) ay ak al am an ao ap af ag ab ai ae = some r) ∧ A_ (kq ≤ k) ∧ A_ (w'.heap[ad]? = some (.cells #[.int .i64 ak, .int .i64 al, .int .i64 am, .int .i64 an, .int .i64 ao, .int .i64 ap, .int .i64 af, .int .i64 ag, (.slice aC ab.length ax), (.slice av ai.length aw), (.slice au ae.length aq)] 28 (0, 0))) ∧ A_ (Below w.heap.size w w'))
  case atStart => exact ⟨(0), (by first | rfl | (simp; done) | (simp [*]; done)), H', ⟨Nat.le_refl _⟩, ⟨by refine kB ?_; exact aa.out⟩, ⟨by exact lB HB.out⟩⟩
  case round =>
   clear H'
   try clear c1
   try clear c2
   try clear p2
   try clear c3
   try clear bB
   try clear bC
   try clear bn
   try clear bD
   try clear bE
   try clear bF
   try clear bG
   try clear bH
   try clear bI
   try clear bJ
   try clear bK
   try clear bV
   try clear bW
   try clear bp
   try clear bX
   try clear bY
   try clear bZ
   try clear b0
   try clear b1
   try clear b2
   try clear b3
   try clear b4
   try clear bL
   try clear bM
   try clear bo
   try clear bN
   try clear bO
   try clear bP
   try clear bQ
   try clear bR
   try clear bS
   try clear bT
   try clear bU
   try clear b5
   try clear b6
   try clear bq
   try clear b7
   try clear b8
   try clear b9
   try clear ca
   try clear cb
   try clear cc
   try clear cd
   try clear ce
   obtain ⟨ay, rfl, HA, HK1, aa, HB⟩ := hrel
   cases gk with
   | zero => exact absurd HA.out (by simp [atlas_May.l0])
   | succ k1 =>
    have H := HA.out
    clear HA
    simp only [atlas_May.l0] at H
    by_cases c8 : ay < (ae.length : Int)
    ·rw [if_pos c8] at H
     have dC : decide (ay < (ae.length : Int)) = true := decide_eq_true c8
     clear c8
     by_cases c9 : 0 ≤ ay
     ·rw [if_pos c9] at H
      have dJ : decide (0 ≤ ay) = true := decide_eq_true c9
      clear c9
      by_cases c10 : ay < (ae.length : Int)
      ·rw [if_pos c10] at H
       have dE : decide (ay < (ae.length : Int)) = true := decide_eq_true c10
       clear c10
       by_cases c11 : ((rdOf ByteArray.empty ae ay).size : Int) = (wrap64 ((wrap64 (4 * af)) * ag))
       ·rw [if_pos c11] at H
        have cv : (((rdOf ByteArray.empty ae ay).size : Int) == (wrap64 ((wrap64 (4 * af)) * ag))) = true := beq_iff_eq.mpr c11
        have cw : (((rdOf ByteArray.empty ae ay).size : Int) != (wrap64 ((wrap64 (4 * af)) * ag))) = false := bne_eq_false_iff_eq.mpr c11
        clear c11
        have H' := A_.mk H
        clear H
        have p128 : 0 ≤ (ay : Int) := of_decide_eq_true (by first | (with_reducible assumption) | assumption)
        have q128 : ay < (ae.length : Int) := of_decide_eq_true (by first | (with_reducible assumption) | assumption)
        obtain ⟨ad128, e128, aD⟩ := Kd.at_string bf.out ay p128 q128
        cases e128
        replace aD := (HB.out.cell (World.block_lt_of_cell? w _ aD)).trans aD
        replace p128 := eq_true p128
        replace q128 := eq_true q128
        have cx : wr.cell? ⟨ad, 0, none⟩ = some (.int .i64 ak) := (D_ aa.out 0).trans rfl
        have cy : wr.cell? ⟨ad, 1, none⟩ = some (.int .i64 al) := (D_ aa.out 1).trans rfl
        have cz : wr.cell? ⟨ad, 2, none⟩ = some (.int .i64 am) := (D_ aa.out 2).trans rfl
        have cA : wr.cell? ⟨ad, 3, none⟩ = some (.int .i64 an) := (D_ aa.out 3).trans rfl
        have cB : wr.cell? ⟨ad, 4, none⟩ = some (.int .i64 ao) := (D_ aa.out 4).trans rfl
        have cC : wr.cell? ⟨ad, 5, none⟩ = some (.int .i64 ap) := (D_ aa.out 5).trans rfl
        have cD : wr.cell? ⟨ad, 6, none⟩ = some (.int .i64 af) := (D_ aa.out 6).trans rfl
        have cE : wr.cell? ⟨ad, 7, none⟩ = some (.int .i64 ag) := (D_ aa.out 7).trans rfl
        have cF : wr.cell? ⟨ad, 8, none⟩ = some (.slice aC ab.length ax) := (D_ aa.out 8).trans rfl
        have cG : wr.cell? ⟨ad, 9, none⟩ = some (.slice av ai.length aw) := (D_ aa.out 9).trans rfl
        have ci : wr.cell? ⟨ad, 10, none⟩ = some (.slice (some ad128) ae.length aq) := (D_ aa.out 10).trans rfl
        have cH := B_ aa.out 0
        have cI := B_ aa.out 1
        have cJ := B_ aa.out 2
        have cK := B_ aa.out 3
        have cL := B_ aa.out 4
        have cM := B_ aa.out 5
        have cN := B_ aa.out 6
        have cO := B_ aa.out 7
        have cP := B_ aa.out 8
        have cQ := B_ aa.out 9
        have cj := B_ aa.out 10
        go_wp2
        go_roundg k1
        case measure => have := HK1.out; omega
        case rel => exact ⟨(wrap64 (ay + 1)), (by first | rfl | (simp; done) | (simp [*]; done)), H', ⟨by have := HK1.out; omega⟩, ⟨by refine kB ?_; exact aa.out⟩, ⟨by exact lB HB.out⟩⟩
       ·rw [if_neg c11] at H
        have cv : (((rdOf ByteArray.empty ae ay).size : Int) == (wrap64 ((wrap64 (4 * af)) * ag))) = false := beq_eq_false_iff_ne.mpr c11
        have cw : (((rdOf ByteArray.empty ae ay).size : Int) != (wrap64 ((wrap64 (4 * af)) * ag))) = true := bne_iff_ne.mpr c11
        obtain rfl := Option.some.inj H
        have p128 : 0 ≤ (ay : Int) := of_decide_eq_true (by first | (with_reducible assumption) | assumption)
        have q128 : ay < (ae.length : Int) := of_decide_eq_true (by first | (with_reducible assumption) | assumption)
        obtain ⟨ad128, e128, aD⟩ := Kd.at_string bf.out ay p128 q128
        cases e128
        replace aD := (HB.out.cell (World.block_lt_of_cell? w _ aD)).trans aD
        replace p128 := eq_true p128
        replace q128 := eq_true q128
        have cR : wr.cell? ⟨ad, 0, none⟩ = some (.int .i64 ak) := (D_ aa.out 0).trans rfl
        have cS : wr.cell? ⟨ad, 1, none⟩ = some (.int .i64 al) := (D_ aa.out 1).trans rfl
        have cT : wr.cell? ⟨ad, 2, none⟩ = some (.int .i64 am) := (D_ aa.out 2).trans rfl
        have cU : wr.cell? ⟨ad, 3, none⟩ = some (.int .i64 an) := (D_ aa.out 3).trans rfl
        have cV : wr.cell? ⟨ad, 4, none⟩ = some (.int .i64 ao) := (D_ aa.out 4).trans rfl
        have cW : wr.cell? ⟨ad, 5, none⟩ = some (.int .i64 ap) := (D_ aa.out 5).trans rfl
        have cX : wr.cell? ⟨ad, 6, none⟩ = some (.int .i64 af) := (D_ aa.out 6).trans rfl
        have cY : wr.cell? ⟨ad, 7, none⟩ = some (.int .i64 ag) := (D_ aa.out 7).trans rfl
        have cZ : wr.cell? ⟨ad, 8, none⟩ = some (.slice aC ab.length ax) := (D_ aa.out 8).trans rfl
        have c0 : wr.cell? ⟨ad, 9, none⟩ = some (.slice av ai.length aw) := (D_ aa.out 9).trans rfl
        have ck : wr.cell? ⟨ad, 10, none⟩ = some (.slice (some ad128) ae.length aq) := (D_ aa.out 10).trans rfl
        have c4 := B_ aa.out 0
        have c5 := B_ aa.out 1
        have c6 := B_ aa.out 2
        have c7 := B_ aa.out 3
        have da := B_ aa.out 4
        have db := B_ aa.out 5
        have dc := B_ aa.out 6
        have dd := B_ aa.out 7
        have de := B_ aa.out 8
        have df := B_ aa.out 9
        have cl := B_ aa.out 10
        go_wp2
        go_ret
        exact ⟨by first | rfl | (simp [errW_none, errW_some] <;> rfl) | (simp [*, errW_none, errW_some] <;> rfl), by exact lB HB.out⟩
      ·rw [if_neg c10] at H
       exact absurd H (by simp)
     ·rw [if_neg c9] at H
      exact absurd H (by simp)
    ·rw [if_neg c8] at H
     have dC : decide (ay < (ae.length : Int)) = false := decide_eq_false c8
     clear c8
     have H' := A_.mk H
     clear H
     have dg : wr.cell? ⟨ad, 0, none⟩ = some (.int .i64 ak) := (D_ aa.out 0).trans rfl
     have dh : wr.cell? ⟨ad, 1, none⟩ = some (.int .i64 al) := (D_ aa.out 1).trans rfl
     have di : wr.cell? ⟨ad, 2, none⟩ = some (.int .i64 am) := (D_ aa.out 2).trans rfl
     have dj : wr.cell? ⟨ad, 3, none⟩ = some (.int .i64 an) := (D_ aa.out 3).trans rfl
     have dk : wr.cell? ⟨ad, 4, none⟩ = some (.int .i64 ao) := (D_ aa.out 4).trans rfl
     have dl : wr.cell? ⟨ad, 5, none⟩ = some (.int .i64 ap) := (D_ aa.out 5).trans rfl
     have dm : wr.cell? ⟨ad, 6, none⟩ = some (.int .i64 af) := (D_ aa.out 6).trans rfl
     have dn : wr.cell? ⟨ad, 7, none⟩ = some (.int .i64 ag) := (D_ aa.out 7).trans rfl
     have dp : wr.cell? ⟨ad, 8, none⟩ = some (.slice aC ab.length ax) := (D_ aa.out 8).trans rfl
     have dq : wr.cell? ⟨ad, 9, none⟩ = some (.slice av ai.length aw) := (D_ aa.out 9).trans rfl
     have cm : wr.cell? ⟨ad, 10, none⟩ = some (.slice au ae.length aq) := (D_ aa.out 10).trans rfl
     have dr := B_ aa.out 0
     have ds := B_ aa.out 1
     have dt := B_ aa.out 2
     have du := B_ aa.out 3
     have dv := B_ aa.out 4
     have dw := B_ aa.out 5
     have dx := B_ aa.out 6
     have dy := B_ aa.out 7
     have dz := B_ aa.out 8
     have dA := B_ aa.out 9
     have cn := B_ aa.out 10
     go_wp2
     go_loopg [32] k1 (fun kq v32 w' => ∃ (ac : Int), v32 = .int .i64 ac ∧ A_ (atlas_May.l1 kq ab (ab.length : Int) ac ak al am an ao ap af ag ab ai ae = some r) ∧ A_ (kq ≤ k1) ∧ A_ (w'.heap[ad]? = some (.cells #[.int .i64 ak, .int .i64 al, .int .i64 am, .int .i64 an, .int .i64 ao, .int .i64 ap, .int .i64 af, .int .i64 ag, (.slice aC ab.length ax), (.slice av ai.length aw), (.slice au ae.length aq)] 28 (0, 0))) ∧ A_ (Below w.heap.size w w'))
     case atStart => exact ⟨(0), (by first | rfl | (simp; done) | (simp [*]; done)), H', ⟨Nat.le_refl _⟩, ⟨by refine kB ?_; exact aa.out⟩, ⟨by exact lB HB.out⟩⟩
     case round =>
      clear H'
      try clear c1
      try clear p1
      try clear q1
      try clear fR
      try clear c2
      try clear p2
      try clear c3
      try clear p6
      try clear c8
      try clear dC
      try clear c9
      try clear dJ
      try clear c10
      try clear dE
      try clear c11
      try clear cv
      try clear cw
      try clear p12
      try clear q12
      try clear fQ
      try clear cx
      try clear cy
      try clear ci
      try clear cz
      try clear cA
      try clear cB
      try clear cC
      try clear cD
      try clear cE
      try clear cF
      try clear cG
      try clear cR
      try clear cS
      try clear ck
      try clear cT
      try clear cU
      try clear cV
      try clear cW
      try clear cX
      try clear cY
      try clear cZ
      try clear c0
      try clear dg
      try clear dh
      try clear cm
      try clear di
      try clear dj
      try clear dk
      try clear dl
      try clear dm
      try clear dn
      try clear dp
      try clear dq
      try clear bB
      try clear bC
      try clear bn
      try clear bD
      try clear bE
      try clear bF
      try clear bG
      try clear bH
      try clear bI
      try clear bJ
      try clear bK
      try clear bV
      try clear bW
      try clear bp
      try clear bX
      try clear bY
      try clear bZ
      try clear b0
      try clear b1
      try clear b2
      try clear b3
      try clear b4
      try clear cH
      try clear cI
      try clear cj
      try clear cJ
      try clear cK
      try clear cL
      try clear cM
      try clear cN
      try clear cO
      try clear cP
      try clear cQ
      try clear c4
      try clear c5
      try clear cl
      try clear c6
      try clear c7
      try clear da
      try clear db
      try clear dc
      try clear dd
      try clear de
      try clear df
      try clear dr
      try clear ds
      try clear cn
      try clear dt
      try clear du
      try clear dv
      try clear dw
      try clear dx
      try clear dy
      try clear dz
      try clear dA
      try clear bL
      try clear bM
      try clear bo
      try clear bN
      try clear bO
      try clear bP
      try clear bQ
      try clear bR
      try clear bS
      try clear bT
      try clear bU
      try clear b5
      try clear b6
      try clear bq
      try clear b7
      try clear b8
      try clear b9
      try clear ca
      try clear cb
      try clear cc
      try clear cd
      try clear ce
      try clear aD
      try clear p128
      try clear p2
      try clear q128
      obtain ⟨ac, rfl, HA, HK2, aa, HB⟩ := hrel
      cases gk with
      | zero => exact absurd HA.out (by simp [atlas_May.l1])
      | succ k2 =>
       have H := HA.out
       clear HA
       simp only [atlas_May.l1] at H
       by_cases c15 : ac < (ab.length : Int)
       ·rw [if_pos c15] at H
        have dF : decide (ac < (ab.length : Int)) = true := decide_eq_true c15
        clear c15
        by_cases c16 : 0 ≤ ac
        ·rw [if_pos c16] at H
         have fH : decide (0 ≤ ac) = true := decide_eq_true c16
         clear c16
         by_cases c17 : ac < (ab.length : Int)
         ·rw [if_pos c17] at H
          have fI : decide (ac < (ab.length : Int)) = true := decide_eq_true c17
          clear c17
          replace H := Option.bind_eq_some_iff.mp H
          obtain ⟨br, A180, H⟩ := H
          replace H : (if br = true then (atlas_May.l1 k2 ab (ab.length : Int) (wrap64 (ac + 1)) ak al am an ao ap af ag ab ai ae) else (some false)) = some r := H
          have A18 := A_.mk A180
          clear A180
          by_cases c19 : br = true
          ·subst c19
           have H1 : (atlas_May.l1 k2 ab (ab.length : Int) (wrap64 (ac + 1)) ak al am an ao ap af ag ab ai ae) = some r := by rw [if_pos rfl] at H; exact H
           clear H
           have H := H1
           clear H1
           have H' := A_.mk H
           clear H
           have p129 : 0 ≤ (ac : Int) := of_decide_eq_true (by first | (with_reducible assumption) | assumption)
           have q129 : ac < (ab.length : Int) := of_decide_eq_true (by first | (with_reducible assumption) | assumption)
           obtain ⟨ad129, e129, aH, aI, aJ, aK, aL, aM, aN, aO⟩ := at_T54 bi.out ac p129 q129
           cases e129
           replace aH := (HB.out.cell (World.block_lt_of_cell? w _ aH)).trans aH
           replace aI := (HB.out.cell (World.block_lt_of_cell? w _ aI)).trans aI
           replace aJ := (HB.out.cell (World.block_lt_of_cell? w _ aJ)).trans aJ
           replace aK := (HB.out.cell (World.block_lt_of_cell? w _ aK)).trans aK
           replace aL := (HB.out.cell (World.block_lt_of_cell? w _ aL)).trans aL
           replace aM := (HB.out.cell (World.block_lt_of_cell? w _ aM)).trans aM
           replace aN := (HB.out.cell (World.block_lt_of_cell? w _ aN)).trans aN
           replace aO := (HB.out.cell (World.block_lt_of_cell? w _ aO)).trans aO
           replace p129 := eq_true p129
           replace q129 := eq_true q129
           go_wp2_with (first | ((with_reducible refine O_ (N := 6) rfl ?_); refine N_ ?hg (N := 6) ?hd (cs := #[.int .i64 0, .int .i64 0, .int .i64 0, .int .i64 0, .int .i64 0, .int .i64 0, .int .i64 0, .int .i64 0]) (t := 54) ?hr ?_; (case hd => rfl); (case hg => rfl); (case hr => first | (go_simp; done) | (go_simp; rfl)); intro ar hg aE hbox hb; have aA := A_.mk (F_ (g := ad) (o := .cells #[.int .i64 ak, .int .i64 al, .int .i64 am, .int .i64 an, .int .i64 ao, .int .i64 ap, .int .i64 af, .int .i64 ag, .slice (some ad129) ab.length ax, .slice av ai.length aw, .slice au ae.length aq] 28 (0, 0)) (by refine kB ?_; exact aa.out) hb); have aB := A_.mk (E_ (by exact lB HB.out) hb); have aP := A_.mk (hbox); have aV := A_.mk ((by rw [hg]; exact (G_ (by exact lB HB.out)) : w.heap.size ≤ ar)); have cf := A_.mk ((by rw [hg]; exact (G_ (by exact lB HB.out)) : w.heap.size ≤ ar)); have cg := A_.mk ((by rw [hg]; exact Nat.ne_of_lt (M_ (g := ad) (o := .cells #[.int .i64 ak, .int .i64 al, .int .i64 am, .int .i64 an, .int .i64 ao, .int .i64 ap, .int .i64 af, .int .i64 ag, .slice (some ad129) ab.length ax, .slice av ai.length aw, .slice au ae.length aq] 28 (0, 0)) (by refine kB ?_; exact aa.out)) : ad ≠ ar)); have ch := A_.mk ((by rw [hg]; exact Nat.ne_of_gt (M_ (g := ad) (o := .cells #[.int .i64 ak, .int .i64 al, .int .i64 am, .int .i64 an, .int .i64 ao, .int .i64 ap, .int .i64 af, .int .i64 ag, .slice (some ad129) ab.length ax, .slice av ai.length aw, .slice au ae.length aq] 28 (0, 0)) (by refine kB ?_; exact aa.out)) : ar ≠ ad)); clear aa; clear HB; have aa := aA; have HB := aB; have ah := aP; have dG := aV; have bg := cf; have aj := cg; have aW := ch; clear aA aB aP aV cf cg ch; clear hb hbox hg; have fJ := aW.out; have fK := aj.out; have dS : aE.cell? ⟨ar, 0, none⟩ = some (.int .i64 0) := (D_ ah.out 0).trans rfl; have dT : aE.cell? ⟨ar, 1, none⟩ = some (.int .i64 0) := (D_ ah.out 1).trans rfl; have dU : aE.cell? ⟨ar, 2, none⟩ = some (.int .i64 0) := (D_ ah.out 2).trans rfl; have dV : aE.cell? ⟨ar, 3, none⟩ = some (.int .i64 0) := (D_ ah.out 3).trans rfl; have dW : aE.cell? ⟨ar, 4, none⟩ = some (.int .i64 0) := (D_ ah.out 4).trans rfl; have dX : aE.cell? ⟨ar, 5, none⟩ = some (.int .i64 0) := (D_ ah.out 5).trans rfl; have dY : aE.cell? ⟨ar, 6, none⟩ = some (.int .i64 0) := (D_ ah.out 6).trans rfl; have dZ : aE.cell? ⟨ar, 7, none⟩ = some (.int .i64 0) := (D_ ah.out 7).trans rfl; have d0 := B_ ah.out 0; have d1 := B_ ah.out 1; have d2 := B_ ah.out 2; have d3 := B_ ah.out 3; have d4 := B_ ah.out 4; have d5 := B_ ah.out 5; have d6 := B_ ah.out 6; have d7 := B_ ah.out 7; have d8 : aE.cell? ⟨ad, 0, none⟩ = some (.int .i64 ak) := (D_ aa.out 0).trans rfl; have d9 : aE.cell? ⟨ad, 1, none⟩ = some (.int .i64 al) := (D_ aa.out 1).trans rfl; have ea : aE.cell? ⟨ad, 2, none⟩ = some (.int .i64 am) := (D_ aa.out 2).trans rfl; have eb : aE.cell? ⟨ad, 3, none⟩ = some (.int .i64 an) := (D_ aa.out 3).trans rfl; have ec : aE.cell? ⟨ad, 4, none⟩ = some (.int .i64 ao) := (D_ aa.out 4).trans rfl; have ed : aE.cell? ⟨ad, 5, none⟩ = some (.int .i64 ap) := (D_ aa.out 5).trans rfl; have ee : aE.cell? ⟨ad, 6, none⟩ = some (.int .i64 af) := (D_ aa.out 6).trans rfl; have ef : aE.cell? ⟨ad, 7, none⟩ = some (.int .i64 ag) := (D_ aa.out 7).trans rfl; have eg : aE.cell? ⟨ad, 8, none⟩ = some (.slice (some ad129) ab.length ax) := (D_ aa.out 8).trans rfl; have eh : aE.cell? ⟨ad, 9, none⟩ = some (.slice av ai.length aw) := (D_ aa.out 9).trans rfl; have dK : aE.cell? ⟨ad, 10, none⟩ = some (.slice au ae.length aq) := (D_ aa.out 10).trans rfl; have ei := B_ aa.out 0; have ej := B_ aa.out 1; have ek := B_ aa.out 2; have el := B_ aa.out 3; have em := B_ aa.out 4; have en := B_ aa.out 5; have eo := B_ aa.out 6; have ep := B_ aa.out 7; have eq := B_ aa.out 8; have er := B_ aa.out 9; have dL := B_ aa.out 10) | ((with_reducible refine P_ (f := 30) rfl ?_); refine R_ (some 42) rfl rfl Tryd.func30 (by kernel_rfl) rfl #[.agg #[.int .i64 ((Z_ ab ac).f0), .int .i64 ((Z_ ab ac).f1.f0), .int .i64 ((Z_ ab ac).f1.f1), .int .i64 ((Z_ ab ac).f1.f2), .int .i64 ((Z_ ab ac).f1.f3), .int .i64 ((Z_ ab ac).f2.f0), .int .i64 ((Z_ ab ac).f2.f1), .int .i64 ((Z_ ab ac).f2.f2)], .agg #[.int .i64 af, .int .i64 ag], .int .i64 (ae.length : Int)] rfl (by (try simp only [List.map_toArray, List.map_cons, List.map_nil]); first | done | rfl | (simp only [List.length_drop, List.length_take]; rfl)) ?_; (with_reducible refine (atlas_entry.calls k2 ((Z_ ab ac).f0) ((Z_ ab ac).f1.f0) ((Z_ ab ac).f1.f1) ((Z_ ab ac).f1.f2) ((Z_ ab ac).f1.f3) ((Z_ ab ac).f2.f0) ((Z_ ab ac).f2.f1) ((Z_ ab ac).f2.f2) af ag (ae.length : Int) true _ A18.out).mono ?_); rintro e fS ⟨rfl, hb⟩; refine ⟨_, rfl, ?_⟩; have aA := A_.mk (F_ (g := ad) (o := .cells #[.int .i64 ak, .int .i64 al, .int .i64 am, .int .i64 an, .int .i64 ao, .int .i64 ap, .int .i64 af, .int .i64 ag, .slice (some ad129) ab.length ax, .slice av ai.length aw, .slice au ae.length aq] 28 (0, 0)) (by refine kB ?_; refine J_ ?_ aj.out _; refine kB ?_; refine J_ ?_ aj.out _; refine kB ?_; refine J_ ?_ aj.out _; refine kB ?_; refine J_ ?_ aj.out _; refine kB ?_; refine J_ ?_ aj.out _; refine kB ?_; refine J_ ?_ aj.out _; refine kB ?_; refine J_ ?_ aj.out _; refine kB ?_; refine J_ ?_ aj.out _; refine kB ?_; exact aa.out) hb); have aB := A_.mk (F_ (g := ar) (o := .cells #[.int .i64 ((Z_ ab ac).f0), .int .i64 ((Z_ ab ac).f1.f0), .int .i64 ((Z_ ab ac).f1.f1), .int .i64 ((Z_ ab ac).f1.f2), .int .i64 ((Z_ ab ac).f1.f3), .int .i64 ((Z_ ab ac).f2.f0), .int .i64 ((Z_ ab ac).f2.f1), .int .i64 ((Z_ ab ac).f2.f2)] 54 (0, 0)) (by refine kB ?_; refine L_ (cs := #[.int .i64 ((Z_ ab ac).f0), .int .i64 ((Z_ ab ac).f1.f0), .int .i64 ((Z_ ab ac).f1.f1), .int .i64 ((Z_ ab ac).f1.f2), .int .i64 ((Z_ ab ac).f1.f3), .int .i64 ((Z_ ab ac).f2.f0), .int .i64 ((Z_ ab ac).f2.f1), .int .i64 0]) ?_ 7 _ rfl; refine kB ?_; refine L_ (cs := #[.int .i64 ((Z_ ab ac).f0), .int .i64 ((Z_ ab ac).f1.f0), .int .i64 ((Z_ ab ac).f1.f1), .int .i64 ((Z_ ab ac).f1.f2), .int .i64 ((Z_ ab ac).f1.f3), .int .i64 ((Z_ ab ac).f2.f0), .int .i64 0, .int .i64 0]) ?_ 6 _ rfl; refine kB ?_; refine L_ (cs := #[.int .i64 ((Z_ ab ac).f0), .int .i64 ((Z_ ab ac).f1.f0), .int .i64 ((Z_ ab ac).f1.f1), .int .i64 ((Z_ ab ac).f1.f2), .int .i64 ((Z_ ab ac).f1.f3), .int .i64 0, .int .i64 0, .int .i64 0]) ?_ 5 _ rfl; refine kB ?_; refine L_ (cs := #[.int .i64 ((Z_ ab ac).f0), .int .i64 ((Z_ ab ac).f1.f0), .int .i64 ((Z_ ab ac).f1.f1), .int .i64 ((Z_ ab ac).f1.f2), .int .i64 0, .int .i64 0, .int .i64 0, .int .i64 0]) ?_ 4 _ rfl; refine kB ?_; refine L_ (cs := #[.int .i64 ((Z_ ab ac).f0), .int .i64 ((Z_ ab ac).f1.f0), .int .i64 ((Z_ ab ac).f1.f1), .int .i64 0, .int .i64 0, .int .i64 0, .int .i64 0, .int .i64 0]) ?_ 3 _ rfl; refine kB ?_; refine L_ (cs := #[.int .i64 ((Z_ ab ac).f0), .int .i64 ((Z_ ab ac).f1.f0), .int .i64 0, .int .i64 0, .int .i64 0, .int .i64 0, .int .i64 0, .int .i64 0]) ?_ 2 _ rfl; refine kB ?_; refine L_ (cs := #[.int .i64 ((Z_ ab ac).f0), .int .i64 0, .int .i64 0, .int .i64 0, .int .i64 0, .int .i64 0, .int .i64 0, .int .i64 0]) ?_ 1 _ rfl; refine kB ?_; refine L_ (cs := #[.int .i64 0, .int .i64 0, .int .i64 0, .int .i64 0, .int .i64 0, .int .i64 0, .int .i64 0, .int .i64 0]) ?_ 0 _ rfl; refine kB ?_; exact ah.out) hb); have aP := A_.mk (E_ (by exact lB HB.out) hb); clear aa; clear ah; clear HB; have aa := aA; have ah := aB; have HB := aP; clear aA aB aP; (try clear hb); (try clear cu); (try clear hk); (try clear hi)))
           go_roundg k2
           case measure => have := HK1.out; have := HK2.out; omega
           case rel => exact ⟨(wrap64 (ac + 1)), (by first | rfl | (simp; done) | (simp [*]; done)), H', ⟨by have := HK1.out; have := HK2.out; omega⟩, ⟨by refine kB ?_; exact aa.out⟩, ⟨by exact lB HB.out⟩⟩
          ·replace c19 := Bool.eq_false_iff.mpr c19
           subst c19
           have H1 : (some false) = some r := by rw [if_neg (show ¬ (false = true) by decide)] at H; exact H
           clear H
           have H := H1
           clear H1
           obtain rfl := Option.some.inj H
           have p129 : 0 ≤ (ac : Int) := of_decide_eq_true (by first | (with_reducible assumption) | assumption)
           have q129 : ac < (ab.length : Int) := of_decide_eq_true (by first | (with_reducible assumption) | assumption)
           obtain ⟨ad129, e129, aH, aI, aJ, aK, aL, aM, aN, aO⟩ := at_T54 bi.out ac p129 q129
           cases e129
           replace aH := (HB.out.cell (World.block_lt_of_cell? w _ aH)).trans aH
           replace aI := (HB.out.cell (World.block_lt_of_cell? w _ aI)).trans aI
           replace aJ := (HB.out.cell (World.block_lt_of_cell? w _ aJ)).trans aJ
           replace aK := (HB.out.cell (World.block_lt_of_cell? w _ aK)).trans aK
           replace aL := (HB.out.cell (World.block_lt_of_cell? w _ aL)).trans aL
           replace aM := (HB.out.cell (World.block_lt_of_cell? w _ aM)).trans aM
           replace aN := (HB.out.cell (World.block_lt_of_cell? w _ aN)).trans aN
           replace aO := (HB.out.cell (World.block_lt_of_cell? w _ aO)).trans aO
           replace p129 := eq_true p129
           replace q129 := eq_true q129
           go_wp2_with (first | ((with_reducible refine O_ (N := 6) rfl ?_); refine N_ ?hg (N := 6) ?hd (cs := #[.int .i64 0, .int .i64 0, .int .i64 0, .int .i64 0, .int .i64 0, .int .i64 0, .int .i64 0, .int .i64 0]) (t := 54) ?hr ?_; (case hd => rfl); (case hg => rfl); (case hr => first | (go_simp; done) | (go_simp; rfl)); intro ar hg aF hbox hb; have aA := A_.mk (F_ (g := ad) (o := .cells #[.int .i64 ak, .int .i64 al, .int .i64 am, .int .i64 an, .int .i64 ao, .int .i64 ap, .int .i64 af, .int .i64 ag, .slice (some ad129) ab.length ax, .slice av ai.length aw, .slice au ae.length aq] 28 (0, 0)) (by refine kB ?_; exact aa.out) hb); have aB := A_.mk (E_ (by exact lB HB.out) hb); have aP := A_.mk (hbox); have aV := A_.mk ((by rw [hg]; exact (G_ (by exact lB HB.out)) : w.heap.size ≤ ar)); have cf := A_.mk ((by rw [hg]; exact (G_ (by exact lB HB.out)) : w.heap.size ≤ ar)); have cg := A_.mk ((by rw [hg]; exact Nat.ne_of_lt (M_ (g := ad) (o := .cells #[.int .i64 ak, .int .i64 al, .int .i64 am, .int .i64 an, .int .i64 ao, .int .i64 ap, .int .i64 af, .int .i64 ag, .slice (some ad129) ab.length ax, .slice av ai.length aw, .slice au ae.length aq] 28 (0, 0)) (by refine kB ?_; exact aa.out)) : ad ≠ ar)); have ch := A_.mk ((by rw [hg]; exact Nat.ne_of_gt (M_ (g := ad) (o := .cells #[.int .i64 ak, .int .i64 al, .int .i64 am, .int .i64 an, .int .i64 ao, .int .i64 ap, .int .i64 af, .int .i64 ag, .slice (some ad129) ab.length ax, .slice av ai.length aw, .slice au ae.length aq] 28 (0, 0)) (by refine kB ?_; exact aa.out)) : ar ≠ ad)); clear aa; clear HB; have aa := aA; have HB := aB; have ah := aP; have dG := aV; have bg := cf; have aj := cg; have aW := ch; clear aA aB aP aV cf cg ch; clear hb hbox hg; have fL := aW.out; have fM := aj.out; have es : aF.cell? ⟨ar, 0, none⟩ = some (.int .i64 0) := (D_ ah.out 0).trans rfl; have et : aF.cell? ⟨ar, 1, none⟩ = some (.int .i64 0) := (D_ ah.out 1).trans rfl; have eu : aF.cell? ⟨ar, 2, none⟩ = some (.int .i64 0) := (D_ ah.out 2).trans rfl; have ev : aF.cell? ⟨ar, 3, none⟩ = some (.int .i64 0) := (D_ ah.out 3).trans rfl; have ew : aF.cell? ⟨ar, 4, none⟩ = some (.int .i64 0) := (D_ ah.out 4).trans rfl; have ex : aF.cell? ⟨ar, 5, none⟩ = some (.int .i64 0) := (D_ ah.out 5).trans rfl; have ey : aF.cell? ⟨ar, 6, none⟩ = some (.int .i64 0) := (D_ ah.out 6).trans rfl; have ez : aF.cell? ⟨ar, 7, none⟩ = some (.int .i64 0) := (D_ ah.out 7).trans rfl; have eA := B_ ah.out 0; have eB := B_ ah.out 1; have eC := B_ ah.out 2; have eD := B_ ah.out 3; have eE := B_ ah.out 4; have eF := B_ ah.out 5; have eG := B_ ah.out 6; have eH := B_ ah.out 7; have eI : aF.cell? ⟨ad, 0, none⟩ = some (.int .i64 ak) := (D_ aa.out 0).trans rfl; have eJ : aF.cell? ⟨ad, 1, none⟩ = some (.int .i64 al) := (D_ aa.out 1).trans rfl; have eK : aF.cell? ⟨ad, 2, none⟩ = some (.int .i64 am) := (D_ aa.out 2).trans rfl; have eL : aF.cell? ⟨ad, 3, none⟩ = some (.int .i64 an) := (D_ aa.out 3).trans rfl; have eM : aF.cell? ⟨ad, 4, none⟩ = some (.int .i64 ao) := (D_ aa.out 4).trans rfl; have eN : aF.cell? ⟨ad, 5, none⟩ = some (.int .i64 ap) := (D_ aa.out 5).trans rfl; have eO : aF.cell? ⟨ad, 6, none⟩ = some (.int .i64 af) := (D_ aa.out 6).trans rfl; have eP : aF.cell? ⟨ad, 7, none⟩ = some (.int .i64 ag) := (D_ aa.out 7).trans rfl; have eQ : aF.cell? ⟨ad, 8, none⟩ = some (.slice (some ad129) ab.length ax) := (D_ aa.out 8).trans rfl; have eR : aF.cell? ⟨ad, 9, none⟩ = some (.slice av ai.length aw) := (D_ aa.out 9).trans rfl; have dM : aF.cell? ⟨ad, 10, none⟩ = some (.slice au ae.length aq) := (D_ aa.out 10).trans rfl; have eS := B_ aa.out 0; have eT := B_ aa.out 1; have eU := B_ aa.out 2; have eV := B_ aa.out 3; have eW := B_ aa.out 4; have eX := B_ aa.out 5; have eY := B_ aa.out 6; have eZ := B_ aa.out 7; have e0 := B_ aa.out 8; have e1 := B_ aa.out 9; have dN := B_ aa.out 10) | ((with_reducible refine P_ (f := 30) rfl ?_); refine R_ (some 42) rfl rfl Tryd.func30 (by kernel_rfl) rfl #[.agg #[.int .i64 ((Z_ ab ac).f0), .int .i64 ((Z_ ab ac).f1.f0), .int .i64 ((Z_ ab ac).f1.f1), .int .i64 ((Z_ ab ac).f1.f2), .int .i64 ((Z_ ab ac).f1.f3), .int .i64 ((Z_ ab ac).f2.f0), .int .i64 ((Z_ ab ac).f2.f1), .int .i64 ((Z_ ab ac).f2.f2)], .agg #[.int .i64 af, .int .i64 ag], .int .i64 (ae.length : Int)] rfl (by (try simp only [List.map_toArray, List.map_cons, List.map_nil]); first | done | rfl | (simp only [List.length_drop, List.length_take]; rfl)) ?_; (with_reducible refine (atlas_entry.calls k2 ((Z_ ab ac).f0) ((Z_ ab ac).f1.f0) ((Z_ ab ac).f1.f1) ((Z_ ab ac).f1.f2) ((Z_ ab ac).f1.f3) ((Z_ ab ac).f2.f0) ((Z_ ab ac).f2.f1) ((Z_ ab ac).f2.f2) af ag (ae.length : Int) false _ A18.out).mono ?_); rintro e fT ⟨rfl, hb⟩; refine ⟨_, rfl, ?_⟩; have aA := A_.mk (F_ (g := ad) (o := .cells #[.int .i64 ak, .int .i64 al, .int .i64 am, .int .i64 an, .int .i64 ao, .int .i64 ap, .int .i64 af, .int .i64 ag, .slice (some ad129) ab.length ax, .slice av ai.length aw, .slice au ae.length aq] 28 (0, 0)) (by refine kB ?_; refine J_ ?_ aj.out _; refine kB ?_; refine J_ ?_ aj.out _; refine kB ?_; refine J_ ?_ aj.out _; refine kB ?_; refine J_ ?_ aj.out _; refine kB ?_; refine J_ ?_ aj.out _; refine kB ?_; refine J_ ?_ aj.out _; refine kB ?_; refine J_ ?_ aj.out _; refine kB ?_; refine J_ ?_ aj.out _; refine kB ?_; exact aa.out) hb); have aB := A_.mk (F_ (g := ar) (o := .cells #[.int .i64 ((Z_ ab ac).f0), .int .i64 ((Z_ ab ac).f1.f0), .int .i64 ((Z_ ab ac).f1.f1), .int .i64 ((Z_ ab ac).f1.f2), .int .i64 ((Z_ ab ac).f1.f3), .int .i64 ((Z_ ab ac).f2.f0), .int .i64 ((Z_ ab ac).f2.f1), .int .i64 ((Z_ ab ac).f2.f2)] 54 (0, 0)) (by refine kB ?_; refine L_ (cs := #[.int .i64 ((Z_ ab ac).f0), .int .i64 ((Z_ ab ac).f1.f0), .int .i64 ((Z_ ab ac).f1.f1), .int .i64 ((Z_ ab ac).f1.f2), .int .i64 ((Z_ ab ac).f1.f3), .int .i64 ((Z_ ab ac).f2.f0), .int .i64 ((Z_ ab ac).f2.f1), .int .i64 0]) ?_ 7 _ rfl; refine kB ?_; refine L_ (cs := #[.int .i64 ((Z_ ab ac).f0), .int .i64 ((Z_ ab ac).f1.f0), .int .i64 ((Z_ ab ac).f1.f1), .int .i64 ((Z_ ab ac).f1.f2), .int .i64 ((Z_ ab ac).f1.f3), .int .i64 ((Z_ ab ac).f2.f0), .int .i64 0, .int .i64 0]) ?_ 6 _ rfl; refine kB ?_; refine L_ (cs := #[.int .i64 ((Z_ ab ac).f0), .int .i64 ((Z_ ab ac).f1.f0), .int .i64 ((Z_ ab ac).f1.f1), .int .i64 ((Z_ ab ac).f1.f2), .int .i64 ((Z_ ab ac).f1.f3), .int .i64 0, .int .i64 0, .int .i64 0]) ?_ 5 _ rfl; refine kB ?_; refine L_ (cs := #[.int .i64 ((Z_ ab ac).f0), .int .i64 ((Z_ ab ac).f1.f0), .int .i64 ((Z_ ab ac).f1.f1), .int .i64 ((Z_ ab ac).f1.f2), .int .i64 0, .int .i64 0, .int .i64 0, .int .i64 0]) ?_ 4 _ rfl; refine kB ?_; refine L_ (cs := #[.int .i64 ((Z_ ab ac).f0), .int .i64 ((Z_ ab ac).f1.f0), .int .i64 ((Z_ ab ac).f1.f1), .int .i64 0, .int .i64 0, .int .i64 0, .int .i64 0, .int .i64 0]) ?_ 3 _ rfl; refine kB ?_; refine L_ (cs := #[.int .i64 ((Z_ ab ac).f0), .int .i64 ((Z_ ab ac).f1.f0), .int .i64 0, .int .i64 0, .int .i64 0, .int .i64 0, .int .i64 0, .int .i64 0]) ?_ 2 _ rfl; refine kB ?_; refine L_ (cs := #[.int .i64 ((Z_ ab ac).f0), .int .i64 0, .int .i64 0, .int .i64 0, .int .i64 0, .int .i64 0, .int .i64 0, .int .i64 0]) ?_ 1 _ rfl; refine kB ?_; refine L_ (cs := #[.int .i64 0, .int .i64 0, .int .i64 0, .int .i64 0, .int .i64 0, .int .i64 0, .int .i64 0, .int .i64 0]) ?_ 0 _ rfl; refine kB ?_; exact ah.out) hb); have aP := A_.mk (E_ (by exact lB HB.out) hb); clear aa; clear ah; clear HB; have aa := aA; have ah := aB; have HB := aP; clear aA aB aP; (try clear hb); (try clear cu); (try clear hk); (try clear hi)))
           go_ret
           exact ⟨by first | rfl | (simp [errW_none, errW_some] <;> rfl) | (simp [*, errW_none, errW_some] <;> rfl), by exact lB HB.out⟩
         ·rw [if_neg c17] at H
          exact absurd H (by simp)
        ·rw [if_neg c16] at H
         exact absurd H (by simp)
       ·rw [if_neg c15] at H
        have dF : decide (ac < (ab.length : Int)) = false := decide_eq_false c15
        clear c15
        replace H := Option.bind_eq_some_iff.mp H
        obtain ⟨bs, A300, H⟩ := H
        replace H : (some bs) = some r := H
        have A30 := A_.mk A300
        clear A300
        obtain rfl := Option.some.inj H
        have e2 : wr.cell? ⟨ad, 0, none⟩ = some (.int .i64 ak) := (D_ aa.out 0).trans rfl
        have e3 : wr.cell? ⟨ad, 1, none⟩ = some (.int .i64 al) := (D_ aa.out 1).trans rfl
        have e4 : wr.cell? ⟨ad, 2, none⟩ = some (.int .i64 am) := (D_ aa.out 2).trans rfl
        have e5 : wr.cell? ⟨ad, 3, none⟩ = some (.int .i64 an) := (D_ aa.out 3).trans rfl
        have e6 : wr.cell? ⟨ad, 4, none⟩ = some (.int .i64 ao) := (D_ aa.out 4).trans rfl
        have e7 : wr.cell? ⟨ad, 5, none⟩ = some (.int .i64 ap) := (D_ aa.out 5).trans rfl
        have e8 : wr.cell? ⟨ad, 6, none⟩ = some (.int .i64 af) := (D_ aa.out 6).trans rfl
        have e9 : wr.cell? ⟨ad, 7, none⟩ = some (.int .i64 ag) := (D_ aa.out 7).trans rfl
        have fa : wr.cell? ⟨ad, 8, none⟩ = some (.slice aC ab.length ax) := (D_ aa.out 8).trans rfl
        have fb : wr.cell? ⟨ad, 9, none⟩ = some (.slice av ai.length aw) := (D_ aa.out 9).trans rfl
        have dO : wr.cell? ⟨ad, 10, none⟩ = some (.slice au ae.length aq) := (D_ aa.out 10).trans rfl
        have fc := B_ aa.out 0
        have fd := B_ aa.out 1
        have fe := B_ aa.out 2
        have ff := B_ aa.out 3
        have fg := B_ aa.out 4
        have fh := B_ aa.out 5
        have fi := B_ aa.out 6
        have fj := B_ aa.out 7
        have fk := B_ aa.out 8
        have fl := B_ aa.out 9
        have dP := B_ aa.out 10
        go_wp2_with (first | ((with_reducible refine P_ (f := 31) rfl ?_); refine R_ (some 50) rfl rfl Tryd.func31 (by kernel_rfl) rfl #[.slice av ai.length aw, .int .i64 (ab.length : Int)] rfl (by (try simp only [List.map_toArray, List.map_cons, List.map_nil]); first | done | rfl | (simp only [List.length_drop, List.length_take]; rfl)) ?_; (with_reducible refine (cmap_May.calls k2 _ _ ai (ab.length : Int) bs _ ?side1 ?side2 A30.out).mono ?_); (case side1 => repeat (first | exact (Kd.C_below bu.out HB.out) | (with_reducible refine Kd.C_alloc ?_ _) | (with_reducible refine Kd.C_drewN ?_ _) | (with_reducible refine Kd.C_drew ?_))); (case side2 => exact bv.out); rintro e fU ⟨rfl, hb⟩; refine ⟨_, rfl, ?_⟩; have aA := A_.mk (F_ (g := ad) (o := .cells #[.int .i64 ak, .int .i64 al, .int .i64 am, .int .i64 an, .int .i64 ao, .int .i64 ap, .int .i64 af, .int .i64 ag, .slice aC ab.length ax, .slice av ai.length aw, .slice au ae.length aq] 28 (0, 0)) (by refine kB ?_; exact aa.out) hb); have aB := A_.mk (E_ (by exact lB HB.out) hb); clear aa; clear HB; have aa := aA; have HB := aB; clear aA aB; (try clear hb); (try clear cu); (try clear hk); (try clear hi)))
        go_ret
        exact ⟨by first | rfl | (simp [errW_none, errW_some] <;> rfl) | (simp [*, errW_none, errW_some] <;> rfl), by exact lB HB.out⟩
 ·replace c3 := Bool.eq_false_iff.mpr c3
  subst c3
  have H1 : (some false) = some r := by rw [if_neg (show ¬ (false = true) by decide)] at H; exact H
  clear H
  have H := H1
  clear H1
  obtain rfl := Option.some.inj H
  go_enter Tryd.func16, Tryd.ntmps16
  go_wp2_with (first | ((with_reducible refine O_ (N := 1) rfl ?_); refine N_ ?hg (N := 1) ?hd (cs := #[.int .i64 ak, .int .i64 al, .int .i64 am, .int .i64 an, .int .i64 ao, .int .i64 ap, .int .i64 af, .int .i64 ag, .slice aC ab.length ax, .slice av ai.length aw, .slice au ae.length aq]) (t := 28) ?hr ?_; (case hd => rfl); (case hg => rfl); (case hr => first | (go_simp; done) | (go_simp; rfl)); intro ad hg aX hbox hb; have aA := A_.mk (E_ (by exact lB HB.out) hb); have aB := A_.mk (hbox); have aP := A_.mk ((by rw [hg]; exact (G_ (by exact lB HB.out)) : w.heap.size ≤ ad)); have aV := A_.mk ((by rw [hg]; exact (G_ (by exact lB HB.out)) : w.heap.size ≤ ad)); clear HB; have HB := aA; have aa := aB; have dD := aP; have az := aV; clear aA aB aP aV; clear hb hbox hg; have fm : aX.cell? ⟨ad, 0, none⟩ = some (.int .i64 ak) := (D_ aa.out 0).trans rfl; have fo : aX.cell? ⟨ad, 1, none⟩ = some (.int .i64 al) := (D_ aa.out 1).trans rfl; have fp : aX.cell? ⟨ad, 2, none⟩ = some (.int .i64 am) := (D_ aa.out 2).trans rfl; have fq : aX.cell? ⟨ad, 3, none⟩ = some (.int .i64 an) := (D_ aa.out 3).trans rfl; have fr : aX.cell? ⟨ad, 4, none⟩ = some (.int .i64 ao) := (D_ aa.out 4).trans rfl; have fs : aX.cell? ⟨ad, 5, none⟩ = some (.int .i64 ap) := (D_ aa.out 5).trans rfl; have ft : aX.cell? ⟨ad, 6, none⟩ = some (.int .i64 af) := (D_ aa.out 6).trans rfl; have fu : aX.cell? ⟨ad, 7, none⟩ = some (.int .i64 ag) := (D_ aa.out 7).trans rfl; have fv : aX.cell? ⟨ad, 8, none⟩ = some (.slice aC ab.length ax) := (D_ aa.out 8).trans rfl; have fw : aX.cell? ⟨ad, 9, none⟩ = some (.slice av ai.length aw) := (D_ aa.out 9).trans rfl; have dQ : aX.cell? ⟨ad, 10, none⟩ = some (.slice au ae.length aq) := (D_ aa.out 10).trans rfl; have fx := B_ aa.out 0; have fy := B_ aa.out 1; have fz := B_ aa.out 2; have fA := B_ aa.out 3; have fB := B_ aa.out 4; have fC := B_ aa.out 5; have fD := B_ aa.out 6; have fE := B_ aa.out 7; have fF := B_ aa.out 8; have fG := B_ aa.out 9; have dR := B_ aa.out 10) | ((with_reducible refine P_ (f := 29) rfl ?_); refine R_ (some 8) rfl rfl Tryd.func29 (by kernel_rfl) rfl #[.agg #[.int .i64 ak, .int .i64 al, .int .i64 am, .int .i64 an, .int .i64 ao, .int .i64 ap, .int .i64 af, .int .i64 ag, .slice aC ab.length ax, .slice av ai.length aw, .slice au ae.length aq]] rfl (by (try simp only [List.map_toArray, List.map_cons, List.map_nil]); first | done | rfl | (simp only [List.length_drop, List.length_take]; rfl)) ?_; (with_reducible refine (atlas_numbers.calls ak al am an ao ap af ag _ _ ab _ _ ai _ _ ae false _ ?side1 ?side2 ?side3 ?side4 ?side5 ?side6 A2.out).mono ?_); (case side1 => repeat (first | exact (Kd.C_below bi.out HB.out) | (with_reducible refine Kd.C_alloc ?_ _) | (with_reducible refine Kd.C_drewN ?_ _) | (with_reducible refine Kd.C_drew ?_))); (case side2 => exact ct.out); (case side3 => repeat (first | exact (Kd.C_below bu.out HB.out) | (with_reducible refine Kd.C_alloc ?_ _) | (with_reducible refine Kd.C_drewN ?_ _) | (with_reducible refine Kd.C_drew ?_))); (case side4 => exact bv.out); (case side5 => repeat (first | exact (Kd.C_below bf.out HB.out) | (with_reducible refine Kd.C_alloc ?_ _) | (with_reducible refine Kd.C_drewN ?_ _) | (with_reducible refine Kd.C_drew ?_))); (case side6 => exact bA.out); rintro e fV ⟨rfl, hb⟩; refine ⟨_, rfl, ?_⟩; have aA := A_.mk (F_ (g := ad) (o := .cells #[.int .i64 ak, .int .i64 al, .int .i64 am, .int .i64 an, .int .i64 ao, .int .i64 ap, .int .i64 af, .int .i64 ag, .slice aC ab.length ax, .slice av ai.length aw, .slice au ae.length aq] 28 (0, 0)) (by refine kB ?_; exact aa.out) hb); have aB := A_.mk (E_ (by exact lB HB.out) hb); clear aa; clear HB; have aa := aA; have HB := aB; clear aA aB; (try clear hb); (try clear cu); (try clear hk); (try clear hi)))
  go_ret
  exact ⟨by first | rfl | (simp [errW_none, errW_some] <;> rfl) | (simp [*, errW_none, errW_some] <;> rfl), by exact lB HB.out⟩

end Go.Proofs.YtjcgmjhcaaaieaaDoor.Pr
