-- printed by a program of this session's (wip/mp.sh), out of the translation; the texts of its folder 'given' are typed by hand
-- shortened (wip/short.py)
import Derived.Test.YtjcgmjhcaaaieaaDoorPr0
namespace Go.Proofs.YtjcgmjhcaaaieaaDoor.Pr
open Go.RowKit Go.Proofs.YtjcgmjhcaaaieaaDoorW.PrintWords Go.Proofs.YtjcgmjhcaaaieaaDoorW.PrintLast Go.Proofs.YtjcgmjhcaaaieaaDoorW.PrintMore
attribute [local go_sem] max2_int min2_int max_two min_two max_three min_three max_four min_four   -- for this text's walks alone
attribute [local go_sem high] eqA32
set_option linter.unusedVariables false
set_option linter.unusedSimpArgs false

/-! ### pochoirlaw30_Few: function 7 -/
def pochoirlaw30_Few.l0 : Nat → List ByteArray → Int → Int → Int → Int → Int → Int → Int → Int → Int → Int → List (S54) → List (S84) → List ByteArray → Option (Bool)
 | 0, _, _, _, _, _, _, _, _, _, _, _, _, _, _ => none
 | k + 1, x6, x7, x8, aI, aJ, aK, aL, aM, aN, aO, aP, ay, az, aA => if x8 < x7 then (if 0 ≤ x8 then (if x8 < (x6.length : Int) then (if ((rdOf ByteArray.empty x6 x8).size : Int) > 2000 then (some false) else (pochoirlaw30_Few.l0 k x6 x7 (wrap64 (x8 + 1)) aI aJ aK aL aM aN aO aP ay az aA)) else (none)) else (none)) else (if (ay.length : Int) ≤ 10 then (if (az.length : Int) ≤ 20 then (some (decide ((aA.length : Int) ≤ 4))) else (some false)) else (some false))
def pochoirlaw30_Few.f (k : Nat) (ah : Int) (ai : Int) (aj : Int) (ak : Int) (al : Int) (am : Int) (an : Int) (ao : Int) (ae : List (S54)) (af : List (S84)) (ac : List ByteArray) : Option (Bool) := pochoirlaw30_Few.l0 k ac (ac.length : Int) 0 ah ai aj ak al am an ao ae af ac
theorem pochoirlaw30_Few.mono_l : ∀ k, (∀ y0 y1 y2 y3 y4 y5 y6 y7 y8 y9 aT aU aV aW, LeO (pochoirlaw30_Few.l0 k y0 y1 y2 y3 y4 y5 y6 y7 y8 y9 aT aU aV aW) (pochoirlaw30_Few.l0 (k + 1) y0 y1 y2 y3 y4 y5 y6 y7 y8 y9 aT aU aV aW))
 | 0 => fun _ _ _ _ _ _ _ _ _ _ _ _ _ _ r h => by simp [pochoirlaw30_Few.l0] at h
 | k + 1 => by
  have ih0 := pochoirlaw30_Few.mono_l k
  ·intro y0 y1 y2 y3 y4 y5 y6 y7 y8 y9 aT aU aV aW
   unfold pochoirlaw30_Few.l0
   repeat' first
   | (with_reducible exact ih0 _ _ _ _ _ _ _ _ _ _ _ _ _ _)
   | (with_reducible exact LeO.refl _)
   | (with_reducible exact LeO.none _)
   | (with_reducible refine LeO.ite ?_ ?_)
   | (with_reducible refine LeO.bind ?_ (fun _ => ?_))
   | exact ih0 _ _ _ _ _ _ _ _ _ _ _ _ _ _
   | exact LeO.none _
   | refine LeO.ite ?_ ?_
   | refine LeO.bind ?_ (fun _ => ?_)
theorem pochoirlaw30_Few.mono : ∀ a0 a1 a2 a3 a4 a5 a6 a7 a8 a9 a10 k, LeO (pochoirlaw30_Few.f k a0 a1 a2 a3 a4 a5 a6 a7 a8 a9 a10) (pochoirlaw30_Few.f (k + 1) a0 a1 a2 a3 a4 a5 a6 a7 a8 a9 a10) := by
 intro a0 a1 a2 a3 a4 a5 a6 a7 a8 a9 a10 k
 have ih0 := pochoirlaw30_Few.mono_l k
 unfold pochoirlaw30_Few.f
 repeat' first
   | (with_reducible exact ih0 _ _ _ _ _ _ _ _ _ _ _ _ _ _)
   | (with_reducible exact LeO.refl _)
   | (with_reducible exact LeO.none _)
   | (with_reducible refine LeO.ite ?_ ?_)
   | (with_reducible refine LeO.bind ?_ (fun _ => ?_))
   | exact ih0 _ _ _ _ _ _ _ _ _ _ _ _ _ _
   | exact LeO.none _
   | refine LeO.ite ?_ ?_
   | refine LeO.bind ?_ (fun _ => ?_)
set_option maxHeartbeats 8000000 in
set_option maxRecDepth 100000 in
theorem pochoirlaw30_Few.calls (k : Nat) (ah : Int) (ai : Int) (aj : Int) (ak : Int) (al : Int) (am : Int) (an : Int) (ao : Int) (ar : Option Addr) (au : Nat) (ae : List (S54)) (av : Option Addr) (aw : Nat) (af : List (S84)) (ap : Option Addr) (aq : Nat) (ac : List ByteArray) (r : Bool) (w : World) (aE : Kd.C k54 w ar ae.length ae) (aF : ae.length ≤ au) (aG : Kd.C k84 w av af.length af) (aH : af.length ≤ aw) (aB : Kd.C Kd.string w ap ac.length ac) (aC : ac.length ≤ aq) (h : pochoirlaw30_Few.f k ah ai aj ak al am an ao ae af ac = some r) :
  Calls Tryd.prog 7 #[.agg #[.int .i64 ah, .int .i64 ai, .int .i64 aj, .int .i64 ak, .int .i64 al, .int .i64 am, .int .i64 an, .int .i64 ao, .slice ar ae.length au, .slice av af.length aw, .slice ap ac.length aq]] w fun e w' => e = .returned (.bool r) ∧ Below w.heap.size w w' := by
 have cR := Tryd.underlying28
 have cM := A_.mk aE
 have cN := A_.mk aF
 clear aE aF
 have cO := A_.mk aG
 have cP := A_.mk aH
 clear aG aH
 have aD := A_.mk aB
 have cL := A_.mk aC
 clear aB aC
 have HB := A_.mk (Below.refl w.heap.size w)
 have H : (pochoirlaw30_Few.l0 k ac (ac.length : Int) 0 ah ai aj ak al am an ao ae af ac) = some r := h
 clear h
 have H' := A_.mk H
 clear H
 go_enter Tryd.func7, Tryd.ntmps7
 go_wp2_with (first | ((with_reducible refine O_ (N := 1) rfl ?_); (try (refine Q_ (by rfl) ?_; dsimp only)); refine N_ ?hg (N := 1) ?hd (cs := #[.int .i64 ah, .int .i64 ai, .int .i64 aj, .int .i64 ak, .int .i64 al, .int .i64 am, .int .i64 an, .int .i64 ao, .slice ar ae.length au, .slice av af.length aw, .slice ap ac.length aq]) (t := 28) ?hr ?_; (case hd => rfl); (case hg => rfl); (case hr => first | (go_simp; done) | (go_simp; rfl)); intro ab hg w2 hbox hb; have br := A_.mk (E_ (by exact lB HB.out) hb); have bs := A_.mk (hbox); have bu := A_.mk ((by rw [hg]; exact (G_ (by exact lB HB.out)) : w.heap.size ≤ ab)); have bv := A_.mk ((by rw [hg]; exact (G_ (by exact lB HB.out)) : w.heap.size ≤ ab)); clear HB; have HB := br; have aa := bs; have cQ := bu; have ax := bv; clear br bs bu bv; clear hb hbox hg; have aX : w2.cell? ⟨ab, 0, none⟩ = some (.int .i64 ah) := (D_ aa.out 0).trans rfl; have aY : w2.cell? ⟨ab, 1, none⟩ = some (.int .i64 ai) := (D_ aa.out 1).trans rfl; have aZ : w2.cell? ⟨ab, 2, none⟩ = some (.int .i64 aj) := (D_ aa.out 2).trans rfl; have ba : w2.cell? ⟨ab, 3, none⟩ = some (.int .i64 ak) := (D_ aa.out 3).trans rfl; have bb : w2.cell? ⟨ab, 4, none⟩ = some (.int .i64 al) := (D_ aa.out 4).trans rfl; have bc : w2.cell? ⟨ab, 5, none⟩ = some (.int .i64 am) := (D_ aa.out 5).trans rfl; have bd : w2.cell? ⟨ab, 6, none⟩ = some (.int .i64 an) := (D_ aa.out 6).trans rfl; have be : w2.cell? ⟨ab, 7, none⟩ = some (.int .i64 ao) := (D_ aa.out 7).trans rfl; have bf : w2.cell? ⟨ab, 8, none⟩ = some (.slice ar ae.length au) := (D_ aa.out 8).trans rfl; have bg : w2.cell? ⟨ab, 9, none⟩ = some (.slice av af.length aw) := (D_ aa.out 9).trans rfl; have aQ : w2.cell? ⟨ab, 10, none⟩ = some (.slice ap ac.length aq) := (D_ aa.out 10).trans rfl; have bh := B_ aa.out 0; have bi := B_ aa.out 1; have bj := B_ aa.out 2; have bk := B_ aa.out 3; have bl := B_ aa.out 4; have bm := B_ aa.out 5; have bn := B_ aa.out 6; have bo := B_ aa.out 7; have bp := B_ aa.out 8; have bq := B_ aa.out 9; have aR := B_ aa.out 10))
 go_loopg [8] k (fun kq v8 w' => ∃ (ad : Int), v8 = .int .i64 ad ∧ A_ (pochoirlaw30_Few.l0 kq ac (ac.length : Int) ad ah ai aj ak al am an ao ae af ac = some r) ∧ A_ (kq ≤ k) ∧ A_ (w'.heap[ab]? = some (.cells #[.int .i64 ah, .int .i64 ai, .int .i64 aj, .int .i64 ak, .int .i64 al, .int .i64 am, .int .i64 an, .int .i64 ao, (.slice ar ae.length au), (.slice av af.length aw), (.slice ap ac.length aq)] 28 (0, 0))) ∧ A_ (Below w.heap.size w w'))
 case atStart => exact ⟨(0), (by first | rfl | (simp; done) | (simp [*]; done)), H', ⟨Nat.le_refl _⟩, ⟨by refine kB ?_; exact aa.out⟩, ⟨by exact lB HB.out⟩⟩
 case round =>
  clear H'
  try clear p2
  try clear aX
  try clear aY
  try clear aQ
  try clear aZ
  try clear ba
  try clear bb
  try clear bc
  try clear bd
  try clear be
  try clear bf
  try clear bg
  try clear bh
  try clear bi
  try clear aR
  try clear bj
  try clear bk
  try clear bl
  try clear bm
  try clear bn
  try clear bo
  try clear bp
  try clear bq
  obtain ⟨ad, rfl, HA, HK1, aa, HB⟩ := hrel
  cases gk with
  | zero => exact absurd HA.out (by simp [pochoirlaw30_Few.l0])
  | succ k1 =>
   have H := HA.out
   clear HA
   simp only [pochoirlaw30_Few.l0] at H
   by_cases c4 : ad < (ac.length : Int)
   ·rw [if_pos c4] at H
    have bx : decide (ad < (ac.length : Int)) = true := decide_eq_true c4
    clear c4
    by_cases c5 : 0 ≤ ad
    ·rw [if_pos c5] at H
     have cS : decide (0 ≤ ad) = true := decide_eq_true c5
     clear c5
     by_cases c6 : ad < (ac.length : Int)
     ·rw [if_pos c6] at H
      have cT : decide (ad < (ac.length : Int)) = true := decide_eq_true c6
      clear c6
      by_cases c7 : ((rdOf ByteArray.empty ac ad).size : Int) > 2000
      ·rw [if_pos c7] at H
       have bz : decide (2000 < ((rdOf ByteArray.empty ac ad).size : Int)) = true := decide_eq_true c7
       have bA : decide (2000 < (rdOf ByteArray.empty ac ad).size) = true := decide_eq_true (by omega)
       clear c7
       obtain rfl := Option.some.inj H
       have p254 : 0 ≤ (ad : Int) := of_decide_eq_true (by first | (with_reducible assumption) | assumption)
       have q254 : ad < (ac.length : Int) := of_decide_eq_true (by first | (with_reducible assumption) | assumption)
       obtain ⟨ad254, e254, ag⟩ := Kd.at_string aD.out ad p254 q254
       cases e254
       replace ag := (HB.out.cell (World.block_lt_of_cell? w _ ag)).trans ag
       replace p254 := eq_true p254
       replace q254 := eq_true q254
       go_wp2
       go_ret
       exact ⟨by first | rfl | (simp [errW_none, errW_some] <;> rfl) | (simp [*, errW_none, errW_some] <;> rfl), by exact lB HB.out⟩
      ·rw [if_neg c7] at H
       have bz : decide (2000 < ((rdOf ByteArray.empty ac ad).size : Int)) = false := decide_eq_false c7
       have bA : decide (2000 < (rdOf ByteArray.empty ac ad).size) = false := decide_eq_false (by omega)
       clear c7
       have H' := A_.mk H
       clear H
       have p254 : 0 ≤ (ad : Int) := of_decide_eq_true (by first | (with_reducible assumption) | assumption)
       have q254 : ad < (ac.length : Int) := of_decide_eq_true (by first | (with_reducible assumption) | assumption)
       obtain ⟨ad254, e254, ag⟩ := Kd.at_string aD.out ad p254 q254
       cases e254
       replace ag := (HB.out.cell (World.block_lt_of_cell? w _ ag)).trans ag
       replace p254 := eq_true p254
       replace q254 := eq_true q254
       go_wp2
       go_roundg k1
       case measure => have := HK1.out; omega
       case rel => exact ⟨(wrap64 (ad + 1)), (by first | rfl | (simp; done) | (simp [*]; done)), H', ⟨by have := HK1.out; omega⟩, ⟨by refine kB ?_; exact aa.out⟩, ⟨by exact lB HB.out⟩⟩
     ·rw [if_neg c6] at H
      exact absurd H (by simp)
    ·rw [if_neg c5] at H
     exact absurd H (by simp)
   ·rw [if_neg c4] at H
    have bx : decide (ad < (ac.length : Int)) = false := decide_eq_false c4
    clear c4
    by_cases c8 : (ae.length : Int) ≤ 10
    ·rw [if_pos c8] at H
     have bB : decide ((ae.length : Int) ≤ 10) = true := decide_eq_true c8
     have bC : decide (ae.length ≤ 10) = true := decide_eq_true (by omega)
     clear c8
     by_cases c9 : (af.length : Int) ≤ 20
     ·rw [if_pos c9] at H
      have bD : decide ((af.length : Int) ≤ 20) = true := decide_eq_true c9
      have bE : decide (af.length ≤ 20) = true := decide_eq_true (by omega)
      clear c9
      obtain rfl := Option.some.inj H
      have bL : wr.cell? ⟨ab, 0, none⟩ = some (.int .i64 ah) := (D_ aa.out 0).trans rfl
      have bM : wr.cell? ⟨ab, 1, none⟩ = some (.int .i64 ai) := (D_ aa.out 1).trans rfl
      have bN : wr.cell? ⟨ab, 2, none⟩ = some (.int .i64 aj) := (D_ aa.out 2).trans rfl
      have bO : wr.cell? ⟨ab, 3, none⟩ = some (.int .i64 ak) := (D_ aa.out 3).trans rfl
      have bP : wr.cell? ⟨ab, 4, none⟩ = some (.int .i64 al) := (D_ aa.out 4).trans rfl
      have bQ : wr.cell? ⟨ab, 5, none⟩ = some (.int .i64 am) := (D_ aa.out 5).trans rfl
      have bR : wr.cell? ⟨ab, 6, none⟩ = some (.int .i64 an) := (D_ aa.out 6).trans rfl
      have bS : wr.cell? ⟨ab, 7, none⟩ = some (.int .i64 ao) := (D_ aa.out 7).trans rfl
      have bT : wr.cell? ⟨ab, 8, none⟩ = some (.slice ar ae.length au) := (D_ aa.out 8).trans rfl
      have bU : wr.cell? ⟨ab, 9, none⟩ = some (.slice av af.length aw) := (D_ aa.out 9).trans rfl
      have bF : wr.cell? ⟨ab, 10, none⟩ = some (.slice ap ac.length aq) := (D_ aa.out 10).trans rfl
      have bV := B_ aa.out 0
      have bW := B_ aa.out 1
      have bX := B_ aa.out 2
      have bY := B_ aa.out 3
      have bZ := B_ aa.out 4
      have b0 := B_ aa.out 5
      have b1 := B_ aa.out 6
      have b2 := B_ aa.out 7
      have b3 := B_ aa.out 8
      have b4 := B_ aa.out 9
      have bG := B_ aa.out 10
      go_wp2
      go_ret
      exact ⟨by first | rfl | (simp [errW_none, errW_some] <;> rfl) | (simp [*, errW_none, errW_some] <;> rfl), by exact lB HB.out⟩
     ·rw [if_neg c9] at H
      have bD : decide ((af.length : Int) ≤ 20) = false := decide_eq_false c9
      have bE : decide (af.length ≤ 20) = false := decide_eq_false (by omega)
      clear c9
      obtain rfl := Option.some.inj H
      have b5 : wr.cell? ⟨ab, 0, none⟩ = some (.int .i64 ah) := (D_ aa.out 0).trans rfl
      have b6 : wr.cell? ⟨ab, 1, none⟩ = some (.int .i64 ai) := (D_ aa.out 1).trans rfl
      have b7 : wr.cell? ⟨ab, 2, none⟩ = some (.int .i64 aj) := (D_ aa.out 2).trans rfl
      have b8 : wr.cell? ⟨ab, 3, none⟩ = some (.int .i64 ak) := (D_ aa.out 3).trans rfl
      have b9 : wr.cell? ⟨ab, 4, none⟩ = some (.int .i64 al) := (D_ aa.out 4).trans rfl
      have ca : wr.cell? ⟨ab, 5, none⟩ = some (.int .i64 am) := (D_ aa.out 5).trans rfl
      have cb : wr.cell? ⟨ab, 6, none⟩ = some (.int .i64 an) := (D_ aa.out 6).trans rfl
      have cc : wr.cell? ⟨ab, 7, none⟩ = some (.int .i64 ao) := (D_ aa.out 7).trans rfl
      have cd : wr.cell? ⟨ab, 8, none⟩ = some (.slice ar ae.length au) := (D_ aa.out 8).trans rfl
      have ce : wr.cell? ⟨ab, 9, none⟩ = some (.slice av af.length aw) := (D_ aa.out 9).trans rfl
      have bH : wr.cell? ⟨ab, 10, none⟩ = some (.slice ap ac.length aq) := (D_ aa.out 10).trans rfl
      have cf := B_ aa.out 0
      have cg := B_ aa.out 1
      have ch := B_ aa.out 2
      have ci := B_ aa.out 3
      have cj := B_ aa.out 4
      have ck := B_ aa.out 5
      have cl := B_ aa.out 6
      have cm := B_ aa.out 7
      have cn := B_ aa.out 8
      have co := B_ aa.out 9
      have bI := B_ aa.out 10
      go_wp2
      go_ret
      exact ⟨by first | rfl | (simp [errW_none, errW_some] <;> rfl) | (simp [*, errW_none, errW_some] <;> rfl), by exact lB HB.out⟩
    ·rw [if_neg c8] at H
     have bB : decide ((ae.length : Int) ≤ 10) = false := decide_eq_false c8
     have bC : decide (ae.length ≤ 10) = false := decide_eq_false (by omega)
     clear c8
     obtain rfl := Option.some.inj H
     have cp : wr.cell? ⟨ab, 0, none⟩ = some (.int .i64 ah) := (D_ aa.out 0).trans rfl
     have cq : wr.cell? ⟨ab, 1, none⟩ = some (.int .i64 ai) := (D_ aa.out 1).trans rfl
     have cr : wr.cell? ⟨ab, 2, none⟩ = some (.int .i64 aj) := (D_ aa.out 2).trans rfl
     have ct : wr.cell? ⟨ab, 3, none⟩ = some (.int .i64 ak) := (D_ aa.out 3).trans rfl
     have cu : wr.cell? ⟨ab, 4, none⟩ = some (.int .i64 al) := (D_ aa.out 4).trans rfl
     have cv : wr.cell? ⟨ab, 5, none⟩ = some (.int .i64 am) := (D_ aa.out 5).trans rfl
     have cw : wr.cell? ⟨ab, 6, none⟩ = some (.int .i64 an) := (D_ aa.out 6).trans rfl
     have cx : wr.cell? ⟨ab, 7, none⟩ = some (.int .i64 ao) := (D_ aa.out 7).trans rfl
     have cy : wr.cell? ⟨ab, 8, none⟩ = some (.slice ar ae.length au) := (D_ aa.out 8).trans rfl
     have cz : wr.cell? ⟨ab, 9, none⟩ = some (.slice av af.length aw) := (D_ aa.out 9).trans rfl
     have bJ : wr.cell? ⟨ab, 10, none⟩ = some (.slice ap ac.length aq) := (D_ aa.out 10).trans rfl
     have cA := B_ aa.out 0
     have cB := B_ aa.out 1
     have cC := B_ aa.out 2
     have cD := B_ aa.out 3
     have cE := B_ aa.out 4
     have cF := B_ aa.out 5
     have cG := B_ aa.out 6
     have cH := B_ aa.out 7
     have cI := B_ aa.out 8
     have cJ := B_ aa.out 9
     have bK := B_ aa.out 10
     go_wp2
     go_ret
     exact ⟨by first | rfl | (simp [errW_none, errW_some] <;> rfl) | (simp [*, errW_none, errW_some] <;> rfl), by exact lB HB.out⟩

end Go.Proofs.YtjcgmjhcaaaieaaDoor.Pr
