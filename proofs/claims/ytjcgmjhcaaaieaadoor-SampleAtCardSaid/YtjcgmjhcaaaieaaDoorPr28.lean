-- printed by a program of this session's (wip/mp.sh), out of the translation; the texts of its folder 'given' are typed by hand
-- shortened (wip/short.py)
import Derived.Test.YtjcgmjhcaaaieaaDoorPr0
import Derived.Test.YtjcgmjhcaaaieaaDoorPr27
namespace Go.Proofs.YtjcgmjhcaaaieaaDoor.Pr
open Go.RowKit Go.Proofs.YtjcgmjhcaaaieaaDoorW.PrintWords Go.Proofs.YtjcgmjhcaaaieaaDoorW.PrintLast Go.Proofs.YtjcgmjhcaaaieaaDoorW.PrintMore
attribute [local go_sem] max2_int min2_int max_two min_two max_three min_three max_four min_four   -- for this text's walks alone
attribute [local go_sem high] eqA32
set_option linter.unusedVariables false
set_option linter.unusedSimpArgs false

/-! ### sample_Cover: function 12 -/
def sample_Cover.j0 : Nat → Int → Int → Bool → Int → Int → Option (Int × Int)
 | 0, _, _, _, _, _ => none
 | k + 1, x0, x1, bn, au, ai => if bn = true then (some (0, 1)) else (if (wrap64 ((wrap64 (Int.tdiv (wrap64 (255 * (wrap64 (65536 * ai)))) 2)) + (wrap64 ((wrap64 (((2 * (mn (mx x0 0) 16711680)) - 16711680) * x1)) * au)))) < 0 then (some (0, 0)) else (if (wrap64 (65536 * ai)) = 0 then (none) else (some ((mn (wrap64 (Int.tdiv (wrap64 ((wrap64 (Int.tdiv (wrap64 (255 * (wrap64 (65536 * ai)))) 2)) + (wrap64 ((wrap64 (((2 * (mn (mx x0 0) 16711680)) - 16711680) * x1)) * au)))) (wrap64 (65536 * ai)))) 255) % 256, 0))))
def sample_Cover.f (k : Nat) (a0 : Int) (a1 : Int) (ab : Int) (aa : Int) : Option (Int × Int) := if a1 < 1 then (sample_Cover.j0 k a0 a1 true ab aa) else (if a1 > 16 then (sample_Cover.j0 k a0 a1 true ab aa) else ((ratio_May.f k ab aa).bind fun al => (if al = true then (if ab ≤ 0 then (sample_Cover.j0 k a0 a1 true ab aa) else (if ab > 1073741824 then (sample_Cover.j0 k a0 a1 true ab aa) else (sample_Cover.j0 k a0 a1 (decide (aa > 1073741824)) ab aa))) else (sample_Cover.j0 k a0 a1 true ab aa))))
theorem sample_Cover.mono_l : ∀ k, (∀ y0 y1 y2 y3 y4, LeO (sample_Cover.j0 k y0 y1 y2 y3 y4) (sample_Cover.j0 (k + 1) y0 y1 y2 y3 y4))
 | 0 => fun _ _ _ _ _ r h => by simp [sample_Cover.j0] at h
 | k + 1 => by
  have ih0 := sample_Cover.mono_l k
  ·intro y0 y1 y2 y3 y4
   unfold sample_Cover.j0
   repeat' first
   | (with_reducible exact ih0 _ _ _ _ _)
   | (with_reducible exact ratio_May.mono _ _ _)
   | (with_reducible exact LeO.refl _)
   | (with_reducible exact LeO.none _)
   | (with_reducible refine LeO.ite ?_ ?_)
   | (with_reducible refine LeO.bind ?_ (fun _ => ?_))
   | exact ih0 _ _ _ _ _
   | exact ratio_May.mono _ _ _
   | exact LeO.none _
   | refine LeO.ite ?_ ?_
   | refine LeO.bind ?_ (fun _ => ?_)
theorem sample_Cover.mono : ∀ a0 a1 a2 a3 k, LeO (sample_Cover.f k a0 a1 a2 a3) (sample_Cover.f (k + 1) a0 a1 a2 a3) := by
 intro a0 a1 a2 a3 k
 have ih0 := sample_Cover.mono_l k
 unfold sample_Cover.f
 repeat' first
   | (with_reducible exact ih0 _ _ _ _ _)
   | (with_reducible exact ratio_May.mono _ _ _)
   | (with_reducible exact LeO.refl _)
   | (with_reducible exact LeO.none _)
   | (with_reducible refine LeO.ite ?_ ?_)
   | (with_reducible refine LeO.bind ?_ (fun _ => ?_))
   | exact ih0 _ _ _ _ _
   | exact ratio_May.mono _ _ _
   | exact LeO.none _
   | refine LeO.ite ?_ ?_
   | refine LeO.bind ?_ (fun _ => ?_)
set_option maxHeartbeats 8000000 in
set_option maxRecDepth 100000 in
theorem sample_Cover.calls (k : Nat) (a0 : Int) (a1 : Int) (ab : Int) (aa : Int) (r1 : Int) (r2 : Int) (w : World) (h : sample_Cover.f k a0 a1 ab aa = some (r1, r2)) (hTab : HasTab w) :
  Calls Tryd.prog 12 #[.int .i64 a0, .int .i64 a1, .agg #[.int .i64 ab, .int .i64 aa]] w fun e w' => e = .returned (.tuple #[.int .u8 r1, .int .i64 r2]) ∧ Below w.heap.size w w' := by
 have bv := Tryd.underlying42
 have HB := A_.mk (Below.refl w.heap.size w)
 have H : (if a1 < 1 then (sample_Cover.j0 k a0 a1 true ab aa) else (if a1 > 16 then (sample_Cover.j0 k a0 a1 true ab aa) else ((ratio_May.f k ab aa).bind fun al => (if al = true then (if ab ≤ 0 then (sample_Cover.j0 k a0 a1 true ab aa) else (if ab > 1073741824 then (sample_Cover.j0 k a0 a1 true ab aa) else (sample_Cover.j0 k a0 a1 (decide (aa > 1073741824)) ab aa))) else (sample_Cover.j0 k a0 a1 true ab aa))))) = some (r1, r2) := h
 clear h
 have aZ := A_.mk H
 clear H
 go_enter Tryd.func12, Tryd.ntmps12
 go_upto_region 1 with (first | ((with_reducible refine O_ (N := 5) rfl ?_); refine N_ ?hg (N := 5) ?hd (cs := #[.int .i64 ab, .int .i64 aa]) (t := 42) ?hr ?_; (case hd => rfl); (case hg => rfl); (case hr => first | (go_simp; done) | (go_simp; rfl)); intro ad hg w5 hbox hb; have af := A_.mk (E_ (by exact lB HB.out) hb); have ag := A_.mk (hbox); have a8 := A_.mk ((by rw [hg]; exact (G_ (by exact lB HB.out)) : w.heap.size ≤ ad)); have a9 := A_.mk ((by rw [hg]; exact (G_ (by exact lB HB.out)) : w.heap.size ≤ ad)); clear HB; have HB := af; have ac := ag; have br := a8; have ae := a9; clear af ag a8 a9; clear hb hbox hg))
 (try simp only [Act.put, List.setIfInBounds_toArray, List.set_cons_zero, List.set_cons_succ])
 go_cut [35] (fun v35 wc => ∃ (kq : Nat) (aq : Bool), v35 = .bool aq ∧ A_ (sample_Cover.j0 kq a0 a1 aq ab aa = some (r1, r2)) ∧ A_ (kq ≤ k) ∧ A_ (wc.heap[ad]? = some (.cells #[.int .i64 ab, .int .i64 aa] 42 (0, 0))) ∧ A_ (Below w.heap.size w wc))
 case first =>
  have H := aZ.out
  clear aZ
  by_cases c6 : a1 < 1
  ·rw [if_pos c6] at H
   have am : decide (a1 < 1) = true := decide_eq_true c6
   clear c6
   (first | rw [am] | (simp only [i64_w, i32_w]; rw [am]) | skip)
   have H' := A_.mk H
   clear H
   go_wp2
   go_meet
   case rel => exact ⟨_, (true), (by first | rfl | (simp; done) | (simp [*]; done)), H', ⟨by first | omega | exact Nat.le_refl _⟩, ⟨by refine kB ?_; exact ac.out⟩, ⟨by exact lB HB.out⟩⟩
  ·rw [if_neg c6] at H
   have am : decide (a1 < 1) = false := decide_eq_false c6
   clear c6
   (first | rw [am] | (simp only [i64_w, i32_w]; rw [am]) | skip)
   by_cases c7 : a1 > 16
   ·rw [if_pos c7] at H
    have a4 : decide (16 < a1) = true := decide_eq_true c7
    clear c7
    have H' := A_.mk H
    clear H
    go_wp2
    go_meet
    case rel => exact ⟨_, (true), (by first | rfl | (simp; done) | (simp [*]; done)), H', ⟨by first | omega | exact Nat.le_refl _⟩, ⟨by refine kB ?_; exact ac.out⟩, ⟨by exact lB HB.out⟩⟩
   ·rw [if_neg c7] at H
    have a4 : decide (16 < a1) = false := decide_eq_false c7
    clear c7
    replace H := Option.bind_eq_some_iff.mp H
    obtain ⟨al, A80, H⟩ := H
    replace H : (if al = true then (if ab ≤ 0 then (sample_Cover.j0 k a0 a1 true ab aa) else (if ab > 1073741824 then (sample_Cover.j0 k a0 a1 true ab aa) else (sample_Cover.j0 k a0 a1 (decide (aa > 1073741824)) ab aa))) else (sample_Cover.j0 k a0 a1 true ab aa)) = some (r1, r2) := H
    have A8 := A_.mk A80
    clear A80
    by_cases c9 : al = true
    ·subst c9
     have H1 : (if ab ≤ 0 then (sample_Cover.j0 k a0 a1 true ab aa) else (if ab > 1073741824 then (sample_Cover.j0 k a0 a1 true ab aa) else (sample_Cover.j0 k a0 a1 (decide (aa > 1073741824)) ab aa))) = some (r1, r2) := by rw [if_pos rfl] at H; exact H
     clear H
     have H := H1
     clear H1
     by_cases c10 : ab ≤ 0
     ·rw [if_pos c10] at H
      have av : decide (ab ≤ 0) = true := decide_eq_true c10
      clear c10
      have H' := A_.mk H
      clear H
      have ax : w5.cell? ⟨ad, 0, none⟩ = some (.int .i64 ab) := (D_ ac.out 0).trans rfl
      have ay : w5.cell? ⟨ad, 1, none⟩ = some (.int .i64 aa) := (D_ ac.out 1).trans rfl
      have az := B_ ac.out 0
      have aA := B_ ac.out 1
      go_wp2_with (first | (go_at_call 22; (with_reducible refine (ratio_May.calls k ab aa true _ A8.out (hTab.below (by exact lB HB.out))).mono ?_); rintro e ba ⟨rfl, hb⟩; have af := A_.mk (F_ (g := ad) (o := .cells #[.int .i64 ab, .int .i64 aa] 42 (0, 0)) (by refine kB ?_; exact ac.out) hb); have ag := A_.mk (E_ (by exact lB HB.out) hb); clear ac; clear HB; have ac := af; have HB := ag; clear af ag; (try clear hb); (try clear a5); (try clear hk); (try clear hi); have aB : ba.cell? ⟨ad, 0, none⟩ = some (.int .i64 ab) := (D_ ac.out 0).trans rfl; have aC : ba.cell? ⟨ad, 1, none⟩ = some (.int .i64 aa) := (D_ ac.out 1).trans rfl; have aD := B_ ac.out 0; have aE := B_ ac.out 1))
      go_meet
      case rel => exact ⟨_, (true), (by first | rfl | (simp; done) | (simp [*]; done)), H', ⟨by first | omega | exact Nat.le_refl _⟩, ⟨by refine kB ?_; exact ac.out⟩, ⟨by exact lB HB.out⟩⟩
     ·rw [if_neg c10] at H
      have av : decide (ab ≤ 0) = false := decide_eq_false c10
      clear c10
      by_cases c14 : ab > 1073741824
      ·rw [if_pos c14] at H
       have aw : decide (1073741824 < ab) = true := decide_eq_true c14
       clear c14
       have H' := A_.mk H
       clear H
       have aF : w5.cell? ⟨ad, 0, none⟩ = some (.int .i64 ab) := (D_ ac.out 0).trans rfl
       have aG : w5.cell? ⟨ad, 1, none⟩ = some (.int .i64 aa) := (D_ ac.out 1).trans rfl
       have aH := B_ ac.out 0
       have aI := B_ ac.out 1
       go_wp2_with (first | (go_at_call 22; (with_reducible refine (ratio_May.calls k ab aa true _ A8.out (hTab.below (by exact lB HB.out))).mono ?_); rintro e bb ⟨rfl, hb⟩; have af := A_.mk (F_ (g := ad) (o := .cells #[.int .i64 ab, .int .i64 aa] 42 (0, 0)) (by refine kB ?_; exact ac.out) hb); have ag := A_.mk (E_ (by exact lB HB.out) hb); clear ac; clear HB; have ac := af; have HB := ag; clear af ag; (try clear hb); (try clear a5); (try clear hk); (try clear hi); have aJ : bb.cell? ⟨ad, 0, none⟩ = some (.int .i64 ab) := (D_ ac.out 0).trans rfl; have aK : bb.cell? ⟨ad, 1, none⟩ = some (.int .i64 aa) := (D_ ac.out 1).trans rfl; have aL := B_ ac.out 0; have aM := B_ ac.out 1))
       go_meet
       case rel => exact ⟨_, (true), (by first | rfl | (simp; done) | (simp [*]; done)), H', ⟨by first | omega | exact Nat.le_refl _⟩, ⟨by refine kB ?_; exact ac.out⟩, ⟨by exact lB HB.out⟩⟩
      ·rw [if_neg c14] at H
       have aw : decide (1073741824 < ab) = false := decide_eq_false c14
       clear c14
       have H' := A_.mk H
       clear H
       have aN : w5.cell? ⟨ad, 0, none⟩ = some (.int .i64 ab) := (D_ ac.out 0).trans rfl
       have aO : w5.cell? ⟨ad, 1, none⟩ = some (.int .i64 aa) := (D_ ac.out 1).trans rfl
       have aP := B_ ac.out 0
       have aQ := B_ ac.out 1
       go_wp2_with (first | (go_at_call 22; (with_reducible refine (ratio_May.calls k ab aa true _ A8.out (hTab.below (by exact lB HB.out))).mono ?_); rintro e bc ⟨rfl, hb⟩; have af := A_.mk (F_ (g := ad) (o := .cells #[.int .i64 ab, .int .i64 aa] 42 (0, 0)) (by refine kB ?_; exact ac.out) hb); have ag := A_.mk (E_ (by exact lB HB.out) hb); clear ac; clear HB; have ac := af; have HB := ag; clear af ag; (try clear hb); (try clear a5); (try clear hk); (try clear hi); have aR : bc.cell? ⟨ad, 0, none⟩ = some (.int .i64 ab) := (D_ ac.out 0).trans rfl; have aS : bc.cell? ⟨ad, 1, none⟩ = some (.int .i64 aa) := (D_ ac.out 1).trans rfl; have aT := B_ ac.out 0; have aU := B_ ac.out 1))
       go_meet
       case rel => exact ⟨_, (decide (aa > 1073741824)), (by first | rfl | (simp; done) | (simp [*]; done)), H', ⟨by first | omega | exact Nat.le_refl _⟩, ⟨by refine kB ?_; exact ac.out⟩, ⟨by exact lB HB.out⟩⟩
    ·replace c9 := Bool.eq_false_iff.mpr c9
     subst c9
     have H1 : (sample_Cover.j0 k a0 a1 true ab aa) = some (r1, r2) := by rw [if_neg (show ¬ (false = true) by decide)] at H; exact H
     clear H
     have H := H1
     clear H1
     have H' := A_.mk H
     clear H
     have aV : w5.cell? ⟨ad, 0, none⟩ = some (.int .i64 ab) := (D_ ac.out 0).trans rfl
     have aW : w5.cell? ⟨ad, 1, none⟩ = some (.int .i64 aa) := (D_ ac.out 1).trans rfl
     have aX := B_ ac.out 0
     have aY := B_ ac.out 1
     go_wp2_with (first | (go_at_call 22; (with_reducible refine (ratio_May.calls k ab aa false _ A8.out (hTab.below (by exact lB HB.out))).mono ?_); rintro e bw ⟨rfl, hb⟩; have af := A_.mk (F_ (g := ad) (o := .cells #[.int .i64 ab, .int .i64 aa] 42 (0, 0)) (by refine kB ?_; exact ac.out) hb); have ag := A_.mk (E_ (by exact lB HB.out) hb); clear ac; clear HB; have ac := af; have HB := ag; clear af ag; (try clear hb); (try clear a5); (try clear hk); (try clear hi)))
     go_meet
     case rel => exact ⟨_, (true), (by first | rfl | (simp; done) | (simp [*]; done)), H', ⟨by first | omega | exact Nat.le_refl _⟩, ⟨by refine kB ?_; exact ac.out⟩, ⟨by exact lB HB.out⟩⟩
 case rest =>
  clear aZ
  try clear c1
  try clear p2
  try clear c6
  try clear am
  try clear c7
  try clear a4
  try clear c9
  try clear c10
  try clear av
  try clear c12
  try clear c14
  try clear aw
  try clear ax
  try clear ay
  try clear aB
  try clear aC
  try clear aF
  try clear aG
  try clear aJ
  try clear aK
  try clear aN
  try clear aO
  try clear aR
  try clear aS
  try clear aV
  try clear aW
  try clear az
  try clear aA
  try clear aD
  try clear aE
  try clear aH
  try clear aI
  try clear aL
  try clear aM
  try clear aP
  try clear aQ
  try clear aT
  try clear aU
  try clear aX
  try clear aY
  obtain ⟨kq, aq, rfl, HA, bx, ac, HB⟩ := hcut
  cases kq with
  | zero => exact absurd HA.out (by simp [sample_Cover.j0])
  | succ bz =>
   have H := HA.out
   clear HA
   simp only [sample_Cover.j0] at H
   by_cases c23 : aq = true
   ·subst c23
    have H1 : (some (0, 1)) = some (r1, r2) := by rw [if_pos rfl] at H; exact H
    clear H
    have H := H1
    clear H1
    simp only [Option.some.injEq, Prod.mk.injEq] at H
    obtain ⟨rfl, rfl⟩ := H
    go_wp2
    go_ret2
    exact ⟨by first | rfl | (simp [errW_none, errW_some] <;> rfl) | (simp [*, errW_none, errW_some] <;> rfl), by exact lB HB.out⟩
   ·replace c23 := Bool.eq_false_iff.mpr c23
    subst c23
    have H1 : (if (wrap64 ((wrap64 (Int.tdiv (wrap64 (255 * (wrap64 (65536 * aa)))) 2)) + (wrap64 ((wrap64 (((2 * (mn (mx a0 0) 16711680)) - 16711680) * a1)) * ab)))) < 0 then (some (0, 0)) else (if (wrap64 (65536 * aa)) = 0 then (none) else (some ((mn (wrap64 (Int.tdiv (wrap64 ((wrap64 (Int.tdiv (wrap64 (255 * (wrap64 (65536 * aa)))) 2)) + (wrap64 ((wrap64 (((2 * (mn (mx a0 0) 16711680)) - 16711680) * a1)) * ab)))) (wrap64 (65536 * aa)))) 255) % 256, 0)))) = some (r1, r2) := by rw [if_neg (show ¬ (false = true) by decide)] at H; exact H
    clear H
    have H := H1
    clear H1
    obtain ⟨an, aj⟩ : ∃ j_ : Int, (mx a0 0) = j_ := ⟨_, rfl⟩
    replace H : (if (wrap64 ((wrap64 (Int.tdiv (wrap64 (255 * (wrap64 (65536 * aa)))) 2)) + (wrap64 ((wrap64 (((2 * (mn (an) 16711680)) - 16711680) * a1)) * ab)))) < 0 then (some (0, 0)) else (if (wrap64 (65536 * aa)) = 0 then (none) else (some ((mn (wrap64 (Int.tdiv (wrap64 ((wrap64 (Int.tdiv (wrap64 (255 * (wrap64 (65536 * aa)))) 2)) + (wrap64 ((wrap64 (((2 * (mn (an) 16711680)) - 16711680) * a1)) * ab)))) (wrap64 (65536 * aa)))) 255) % 256, 0)))) = some (r1, r2) := by first | (rw [aj] at H; exact H) | (simp only [aj] at H ⊢; exact H)
    have bo : (if a0 < 0 then 0 else a0) = an := aj
    obtain ⟨ah, ak⟩ : ∃ j_ : Int, (mn (an) 16711680) = j_ := ⟨_, rfl⟩
    replace H : (if (wrap64 ((wrap64 (Int.tdiv (wrap64 (255 * (wrap64 (65536 * aa)))) 2)) + (wrap64 ((wrap64 (((2 * (ah)) - 16711680) * a1)) * ab)))) < 0 then (some (0, 0)) else (if (wrap64 (65536 * aa)) = 0 then (none) else (some ((mn (wrap64 (Int.tdiv (wrap64 ((wrap64 (Int.tdiv (wrap64 (255 * (wrap64 (65536 * aa)))) 2)) + (wrap64 ((wrap64 (((2 * (ah)) - 16711680) * a1)) * ab)))) (wrap64 (65536 * aa)))) 255) % 256, 0)))) = some (r1, r2) := by first | (rw [ak] at H; exact H) | (simp only [ak] at H ⊢; exact H)
    have bp : (if 16711680 < (an) then 16711680 else (an)) = ah := ak
    by_cases c26 : (wrap64 ((wrap64 (Int.tdiv (wrap64 (255 * (wrap64 (65536 * aa)))) 2)) + (wrap64 ((wrap64 (((2 * (ah)) - 16711680) * a1)) * ab)))) < 0
    ·rw [if_pos c26] at H
     have a7 : decide ((wrap64 ((wrap64 (Int.tdiv (wrap64 (255 * (wrap64 (65536 * aa)))) 2)) + (wrap64 ((wrap64 (((2 * (ah)) - 16711680) * a1)) * ab)))) < 0) = true := decide_eq_true c26
     clear c26
     simp only [Option.some.injEq, Prod.mk.injEq] at H
     obtain ⟨rfl, rfl⟩ := H
     have bd : wc.cell? ⟨ad, 0, none⟩ = some (.int .i64 ab) := (D_ ac.out 0).trans rfl
     have be : wc.cell? ⟨ad, 1, none⟩ = some (.int .i64 aa) := (D_ ac.out 1).trans rfl
     have bf := B_ ac.out 0
     have bg := B_ ac.out 1
     go_wp2
     go_ret2
     exact ⟨by first | rfl | (simp [errW_none, errW_some] <;> rfl) | (simp only [← aj, ← ak]; first | rfl | (simp [errW_none, errW_some] <;> rfl)) | (simp [*, errW_none, errW_some] <;> rfl), by exact lB HB.out⟩
    ·rw [if_neg c26] at H
     have a7 : decide ((wrap64 ((wrap64 (Int.tdiv (wrap64 (255 * (wrap64 (65536 * aa)))) 2)) + (wrap64 ((wrap64 (((2 * (ah)) - 16711680) * a1)) * ab)))) < 0) = false := decide_eq_false c26
     clear c26
     by_cases c28 : (wrap64 (65536 * aa)) = 0
     ·rw [if_pos c28] at H
      exact absurd H (by simp)
     ·rw [if_neg c28] at H
      have bs : ((wrap64 (65536 * aa)) == 0) = false := beq_eq_false_iff_ne.mpr c28
      have bu : ((wrap64 (65536 * aa)) != 0) = true := bne_iff_ne.mpr c28
      obtain ⟨a6, ar⟩ : ∃ j_ : Int, (mn (wrap64 (Int.tdiv (wrap64 ((wrap64 (Int.tdiv (wrap64 (255 * (wrap64 (65536 * aa)))) 2)) + (wrap64 ((wrap64 (((2 * (ah)) - 16711680) * a1)) * ab)))) (wrap64 (65536 * aa)))) 255) = j_ := ⟨_, rfl⟩
      replace H : (some ((a6) % 256, 0)) = some (r1, r2) := by first | (rw [ar] at H; exact H) | (simp only [ar] at H ⊢; exact H)
      have bq : (if 255 < (wrap64 (Int.tdiv (wrap64 ((wrap64 (Int.tdiv (wrap64 (255 * (wrap64 (65536 * aa)))) 2)) + (wrap64 ((wrap64 (((2 * (ah)) - 16711680) * a1)) * ab)))) (wrap64 (65536 * aa)))) then 255 else (wrap64 (Int.tdiv (wrap64 ((wrap64 (Int.tdiv (wrap64 (255 * (wrap64 (65536 * aa)))) 2)) + (wrap64 ((wrap64 (((2 * (ah)) - 16711680) * a1)) * ab)))) (wrap64 (65536 * aa))))) = a6 := ar
      simp only [Option.some.injEq, Prod.mk.injEq] at H
      obtain ⟨rfl, rfl⟩ := H
      have bh : wc.cell? ⟨ad, 0, none⟩ = some (.int .i64 ab) := (D_ ac.out 0).trans rfl
      have bi : wc.cell? ⟨ad, 1, none⟩ = some (.int .i64 aa) := (D_ ac.out 1).trans rfl
      have bj := B_ ac.out 0
      have bk := B_ ac.out 1
      go_wp2
      go_ret2
      exact ⟨by first | rfl | (simp [errW_none, errW_some] <;> rfl) | (simp only [← aj, ← ak, ← ar]; first | rfl | (simp [errW_none, errW_some] <;> rfl)) | (simp [*, errW_none, errW_some] <;> rfl), by exact lB HB.out⟩

end Go.Proofs.YtjcgmjhcaaaieaaDoor.Pr
