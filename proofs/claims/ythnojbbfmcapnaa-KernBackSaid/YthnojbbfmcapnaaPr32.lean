-- printed by a program of this session's (wip/mp.sh), out of the translation; the texts of its folder 'given' are typed by hand
-- shortened (wip/short.py)
import Derived.Test.YthnojbbfmcapnaaPr0
import Derived.Test.YthnojbbfmcapnaaPr22
import Derived.Test.YthnojbbfmcapnaaPr24
import Derived.Test.YthnojbbfmcapnaaPr29
import Derived.Test.YthnojbbfmcapnaaPr31
namespace Go.Proofs.Ythnojbbfmcapnaa.Pr
open Go.RowKit Go.Proofs.YthnojbbfmcapnaaW.PrintWords Go.Proofs.YthnojbbfmcapnaaW.PrintLast Go.Proofs.YthnojbbfmcapnaaW.PrintMore
attribute [local go_sem] max2_int min2_int max_two min_two max_three min_three max_four min_four   -- for this text's walks alone
set_option linter.unusedVariables false
set_option linter.unusedSimpArgs false

/-! ### pochoirref40_Parse: function 15 -/
mutual
def pochoirref40_Parse.j0 : Nat → ByteArray → Int → Bool → Option ((List (S41)) × Int)
 | 0, _, _, _ => none
 | k + 1, x0, x1, cl => if cl = true then (some (([] : List (S41)), 1)) else (if (x0.size : Int) < 18 then (some (([] : List (S41)), 3)) else ((pochoirref40_u16.f k x0 10).bind fun ak => (if ak > 4096 then (some (([] : List (S41)), 6)) else ((some (([0, 1, 0, wrap64 (14 + (wrap64 (6 * ak))), 1, ak] : List Int) : List Int)).bind fun ar => ((pochoirref40_three.f k ak).bind fun ap => (if ar.length + ap.length < 17592186044416 then (pochoirref40_Parse.l0 k x0 x1 ak (ar ++ ap) 0) else (none)))))))
def pochoirref40_Parse.l0 : Nat → ByteArray → Int → Int → List Int → Int → Option ((List (S41)) × Int)
 | 0, _, _, _, _, _ => none
 | k + 1, x0, x1, x6, x7, x8 => if x8 < 9 then ((pochoirref40_u16.f k x0 (wrap64 (2 * x8))).bind fun aE => (if 0 ≤ x8 then (if x8 < (x7.length : Int) then (if aE = (rd x7 x8) then (pochoirref40_Parse.l0 k x0 x1 x6 x7 (wrap64 (x8 + 1))) else (some (([] : List (S41)), 4))) else (none)) else (none))) else (if (x0.size : Int) < (wrap64 (18 + (wrap64 (6 * x6)))) then (some (([] : List (S41)), 3)) else (pochoirref40_Parse.l1 k x0 x1 x6 ([] : List (S41)) 0))
def pochoirref40_Parse.l1 : Nat → ByteArray → Int → Int → List (S41) → Int → Option ((List (S41)) × Int)
 | 0, _, _, _, _, _ => none
 | k + 1, x0, x1, x6, x9, aJ => if aJ < x6 then ((pochoirref40_u16.f k x0 (wrap64 (18 + (wrap64 (6 * aJ))))).bind fun ad => ((pochoirref40_u16.f k x0 (wrap64 (20 + (wrap64 (6 * aJ))))).bind fun ah => ((pochoirref07_Signed.f k x0 (wrap64 (22 + (wrap64 (6 * aJ))))).bind fun aj => (if ad ≥ x1 then (some (([] : List (S41)), 4)) else (if ah ≥ x1 then (some (([] : List (S41)), 4)) else (if aJ > 0 then (if 0 ≤ (wrap64 (aJ - 1)) then (if (wrap64 (aJ - 1)) < (x9.length : Int) then ((pochoirref40_after.f ad ah aj ((rd_T41 x9 (wrap64 (aJ - 1))).f0) ((rd_T41 x9 (wrap64 (aJ - 1))).f1) ((rd_T41 x9 (wrap64 (aJ - 1))).f2)).bind fun av => (if av = true then (if x9.length < 5864062014805 then (pochoirref40_Parse.l1 k x0 x1 x6 (x9 ++ [(⟨ad, ah, aj⟩ : S41)]) (wrap64 (aJ + 1))) else (none)) else (some (([] : List (S41)), 4)))) else (none)) else (none)) else (if x9.length < 5864062014805 then (pochoirref40_Parse.l1 k x0 x1 x6 (x9 ++ [(⟨ad, ah, aj⟩ : S41)]) (wrap64 (aJ + 1))) else (none)))))))) else (some (x9, 0))
end
def pochoirref40_Parse.f (k : Nat) (a0 : ByteArray) (a1 : Int) : Option ((List (S41)) × Int) := if a1 < 1 then (pochoirref40_Parse.j0 k a0 a1 true) else (pochoirref40_Parse.j0 k a0 a1 (decide (a1 > 1024)))
theorem pochoirref40_Parse.mono_l : ∀ k, (∀ y0 y1 y2, LeO (pochoirref40_Parse.j0 k y0 y1 y2) (pochoirref40_Parse.j0 (k + 1) y0 y1 y2)) ∧ (∀ y0 y1 y2 y3 y4, LeO (pochoirref40_Parse.l0 k y0 y1 y2 y3 y4) (pochoirref40_Parse.l0 (k + 1) y0 y1 y2 y3 y4)) ∧ (∀ y0 y1 y2 y3 y4, LeO (pochoirref40_Parse.l1 k y0 y1 y2 y3 y4) (pochoirref40_Parse.l1 (k + 1) y0 y1 y2 y3 y4))
 | 0 => ⟨fun _ _ _ r h => by simp [pochoirref40_Parse.j0] at h, fun _ _ _ _ _ r h => by simp [pochoirref40_Parse.l0] at h, fun _ _ _ _ _ r h => by simp [pochoirref40_Parse.l1] at h⟩
 | k + 1 => by
  obtain ⟨ih0, ih1, ih2⟩ := pochoirref40_Parse.mono_l k
  refine ⟨?_, ?_, ?_⟩
  ·intro y0 y1 y2
   unfold pochoirref40_Parse.j0
   repeat' first
   | (with_reducible exact ih0 _ _ _)
   | (with_reducible exact ih1 _ _ _ _ _)
   | (with_reducible exact ih2 _ _ _ _ _)
   | (with_reducible exact pochoirref07_Signed.mono _ _ _)
   | (with_reducible exact pochoirref40_three.mono _ _)
   | (with_reducible exact pochoirref40_u16.mono _ _ _)
   | (with_reducible exact LeO.refl _)
   | (with_reducible exact LeO.none _)
   | (with_reducible refine LeO.ite ?_ ?_)
   | (with_reducible refine LeO.bind ?_ (fun _ => ?_))
   | exact ih0 _ _ _
   | exact ih1 _ _ _ _ _
   | exact ih2 _ _ _ _ _
   | exact pochoirref07_Signed.mono _ _ _
   | exact pochoirref40_three.mono _ _
   | exact pochoirref40_u16.mono _ _ _
   | exact LeO.none _
   | refine LeO.ite ?_ ?_
   | refine LeO.bind ?_ (fun _ => ?_)
  ·intro y0 y1 y2 y3 y4
   unfold pochoirref40_Parse.l0
   repeat' first
   | (with_reducible exact ih0 _ _ _)
   | (with_reducible exact ih1 _ _ _ _ _)
   | (with_reducible exact ih2 _ _ _ _ _)
   | (with_reducible exact pochoirref07_Signed.mono _ _ _)
   | (with_reducible exact pochoirref40_three.mono _ _)
   | (with_reducible exact pochoirref40_u16.mono _ _ _)
   | (with_reducible exact LeO.refl _)
   | (with_reducible exact LeO.none _)
   | (with_reducible refine LeO.ite ?_ ?_)
   | (with_reducible refine LeO.bind ?_ (fun _ => ?_))
   | exact ih0 _ _ _
   | exact ih1 _ _ _ _ _
   | exact ih2 _ _ _ _ _
   | exact pochoirref07_Signed.mono _ _ _
   | exact pochoirref40_three.mono _ _
   | exact pochoirref40_u16.mono _ _ _
   | exact LeO.none _
   | refine LeO.ite ?_ ?_
   | refine LeO.bind ?_ (fun _ => ?_)
  ·intro y0 y1 y2 y3 y4
   unfold pochoirref40_Parse.l1
   repeat' first
   | (with_reducible exact ih0 _ _ _)
   | (with_reducible exact ih1 _ _ _ _ _)
   | (with_reducible exact ih2 _ _ _ _ _)
   | (with_reducible exact pochoirref07_Signed.mono _ _ _)
   | (with_reducible exact pochoirref40_three.mono _ _)
   | (with_reducible exact pochoirref40_u16.mono _ _ _)
   | (with_reducible exact LeO.refl _)
   | (with_reducible exact LeO.none _)
   | (with_reducible refine LeO.ite ?_ ?_)
   | (with_reducible refine LeO.bind ?_ (fun _ => ?_))
   | exact ih0 _ _ _
   | exact ih1 _ _ _ _ _
   | exact ih2 _ _ _ _ _
   | exact pochoirref07_Signed.mono _ _ _
   | exact pochoirref40_three.mono _ _
   | exact pochoirref40_u16.mono _ _ _
   | exact LeO.none _
   | refine LeO.ite ?_ ?_
   | refine LeO.bind ?_ (fun _ => ?_)
theorem pochoirref40_Parse.mono : ∀ a0 a1 k, LeO (pochoirref40_Parse.f k a0 a1) (pochoirref40_Parse.f (k + 1) a0 a1) := by
 intro a0 a1 k
 obtain ⟨ih0, ih1, ih2⟩ := pochoirref40_Parse.mono_l k
 unfold pochoirref40_Parse.f
 repeat' first
   | (with_reducible exact ih0 _ _ _)
   | (with_reducible exact ih1 _ _ _ _ _)
   | (with_reducible exact ih2 _ _ _ _ _)
   | (with_reducible exact pochoirref07_Signed.mono _ _ _)
   | (with_reducible exact pochoirref40_three.mono _ _)
   | (with_reducible exact pochoirref40_u16.mono _ _ _)
   | (with_reducible exact LeO.refl _)
   | (with_reducible exact LeO.none _)
   | (with_reducible refine LeO.ite ?_ ?_)
   | (with_reducible refine LeO.bind ?_ (fun _ => ?_))
   | exact ih0 _ _ _
   | exact ih1 _ _ _ _ _
   | exact ih2 _ _ _ _ _
   | exact pochoirref07_Signed.mono _ _ _
   | exact pochoirref40_three.mono _ _
   | exact pochoirref40_u16.mono _ _ _
   | exact LeO.none _
   | refine LeO.ite ?_ ?_
   | refine LeO.bind ?_ (fun _ => ?_)
def pochoirref40_Parse.T13 : Bool × List (List Nat × List Nat) := (true, [([], []), ([], []), ([1], [1]), ([0, 2], [0, 2]), ([], []), ([], []), ([4, 5], [4, 5]), ([6], [6]), ([3, 7], [3, 7])])
def pochoirref40_Parse.B13 : List Nat := [0, 0, 2, 7, 0, 0, 48, 112, 255]
theorem pochoirref40_Parse.tab13 : rtab .any (opsOf Try.f15 13) = pochoirref40_Parse.T13 := by kernel_rfl
theorem pochoirref40_Parse.bits13 : waitsOk pochoirref40_Parse.T13.2 pochoirref40_Parse.B13 = true := by kernel_rfl
def pochoirref40_Parse.T22 : Bool × List (List Nat × List Nat) := (true, [([], []), ([0], [0]), ([], []), ([1, 2], [1, 2]), ([3], [3]), ([4], [4]), ([5, 4], [4, 5]), ([4], [4]), ([6, 7, 4], [4, 6, 7]), ([4, 8], [4, 8]), ([9, 4], [9]), ([10], [10]), ([11, 10], [10, 11]), ([12, 10, 10], [10, 12]), ([13], [13]), ([13], [13]), ([13], [13]), ([16, 13], [13, 16]), ([15, 17, 13], [13, 15, 17]), ([18, 13], [13, 18]), ([14, 19, 13, 13], [13, 14, 19]), ([20, 13], [13, 20]), ([13, 21, 10], [10, 13, 21]), ([10, 22], [10, 22])])
def pochoirref40_Parse.B22 : List Nat := [0, 1, 0, 7, 15, 31, 63, 31, 255, 511, 1023, 2047, 4095, 8191, 16383, 16383, 16383, 81919, 245759, 507903, 1048575, 2097151, 4194303, 8388607]
theorem pochoirref40_Parse.tab22 : rtab .any (opsOf Try.f15 22) = pochoirref40_Parse.T22 := by kernel_rfl
theorem pochoirref40_Parse.bits22 : waitsOk pochoirref40_Parse.T22.2 pochoirref40_Parse.B22 = true := by kernel_rfl
set_option maxHeartbeats 8000000 in
set_option maxRecDepth 100000 in
theorem pochoirref40_Parse.calls (k : Nat) (a0 : ByteArray) (a1 : Int) (r1 : List (S41)) (r2 : Int) (w : World) (h : pochoirref40_Parse.f k a0 a1 = some (r1, r2)) :
  Calls Try.prog 15 #[.string a0, .int .i64 a1] w fun e w' => ∃ v0_ : Value, e = .returned (.tuple #[v0_, .int .i64 r2]) ∧ Kd.R k41 41 w' w.heap.size (fun _ => True) v0_ r1 ∧ Below w.heap.size w w' := by
 have cu := Try.underlying41
 have HB := Aside0.mk (Below.refl w.heap.size w)
 have H : (if a1 < 1 then (pochoirref40_Parse.j0 k a0 a1 true) else (pochoirref40_Parse.j0 k a0 a1 (decide (a1 > 1024)))) = some (r1, r2) := h
 clear h
 have bk := Aside0.mk H
 clear H
 go_enter Try.func15, Try.ntmps15
 go_upto_region 1 with (fail)
 go_cut [17] (fun v17 wc => ∃ (kq : Nat) (aX : Bool), v17 = .bool aX ∧ Aside0 (pochoirref40_Parse.j0 kq a0 a1 aX = some (r1, r2)) ∧ Aside0 (kq ≤ k) ∧ Aside0 (Below w.heap.size w wc))
 case first =>
  have H := bk.out
  clear bk
  by_cases c4 : a1 < 1
  ·rw [if_pos c4] at H
   have aK : decide (a1 < 1) = true := decide_eq_true c4
   clear c4
   (first | rw [aK] | (simp only [i64_w, i32_w]; rw [aK]) | skip)
   have H' := Aside0.mk H
   clear H
   go_wp2
   go_meet
   case rel => exact ⟨_, (true), (by first | rfl | (simp; done) | (simp [*]; done)), H', ⟨by first | omega | exact Nat.le_refl _⟩, ⟨by exact lB HB.out⟩⟩
  ·rw [if_neg c4] at H
   have aK : decide (a1 < 1) = false := decide_eq_false c4
   clear c4
   (first | rw [aK] | (simp only [i64_w, i32_w]; rw [aK]) | skip)
   have H' := Aside0.mk H
   clear H
   go_wp2
   go_meet
   case rel => exact ⟨_, (decide (a1 > 1024)), (by first | rfl | (simp; done) | (simp [*]; done)), H', ⟨by first | omega | exact Nat.le_refl _⟩, ⟨by exact lB HB.out⟩⟩
 case rest =>
  clear bk
  try clear c1
  try clear p2
  try clear c4
  try clear aK
  obtain ⟨kq, aX, rfl, HA, a8, HB⟩ := hcut
  cases kq with
  | zero => exact absurd HA.out (by simp [pochoirref40_Parse.j0])
  | succ aA =>
   have H := HA.out
   clear HA
   simp only [pochoirref40_Parse.j0] at H
   by_cases c5 : aX = true
   ·subst c5
    have H1 : (some (([] : List (S41)), 1)) = some (r1, r2) := by rw [if_pos rfl] at H; exact H
    clear H
    have H := H1
    clear H1
    simp only [Option.some.injEq, Prod.mk.injEq] at H
    obtain ⟨rfl, rfl⟩ := H
    go_wp2
    go_ret2
    exact ⟨_, by first | rfl | (simp [errW_none, errW_some] <;> rfl) | (simp [*, errW_none, errW_some] <;> rfl), by first | exact Kd.R_nil _ _ _ _ _ | exact Kd.N_nil _ _ _ _ _ | exact Kd.V_nil _ _ _ _ _ | exact Kd.Q_nil _ _ _ _ _ | exact Kd.S_nil _ _ _ _ _, by exact lB HB.out⟩
   ·replace c5 := Bool.eq_false_iff.mpr c5
    subst c5
    have H1 : (if (a0.size : Int) < 18 then (some (([] : List (S41)), 3)) else ((pochoirref40_u16.f aA a0 10).bind fun ak => (if ak > 4096 then (some (([] : List (S41)), 6)) else ((some (([0, 1, 0, wrap64 (14 + (wrap64 (6 * ak))), 1, ak] : List Int) : List Int)).bind fun ar => ((pochoirref40_three.f aA ak).bind fun ap => (if ar.length + ap.length < 17592186044416 then (pochoirref40_Parse.l0 aA a0 a1 ak (ar ++ ap) 0) else (none))))))) = some (r1, r2) := by rw [if_neg (show ¬ (false = true) by decide)] at H; exact H
    clear H
    have H := H1
    clear H1
    by_cases c6 : (a0.size : Int) < 18
    ·rw [if_pos c6] at H
     have bc : decide ((a0.size : Int) < 18) = true := decide_eq_true c6
     have bd : decide (a0.size < 18) = true := decide_eq_true (by omega)
     clear c6
     simp only [Option.some.injEq, Prod.mk.injEq] at H
     obtain ⟨rfl, rfl⟩ := H
     go_wp2
     go_ret2
     exact ⟨_, by first | rfl | (simp [errW_none, errW_some] <;> rfl) | (simp [*, errW_none, errW_some] <;> rfl), by first | exact Kd.R_nil _ _ _ _ _ | exact Kd.N_nil _ _ _ _ _ | exact Kd.V_nil _ _ _ _ _ | exact Kd.Q_nil _ _ _ _ _ | exact Kd.S_nil _ _ _ _ _, by exact lB HB.out⟩
    ·rw [if_neg c6] at H
     have bc : decide ((a0.size : Int) < 18) = false := decide_eq_false c6
     have bd : decide (a0.size < 18) = false := decide_eq_false (by omega)
     clear c6
     replace H := Option.bind_eq_some_iff.mp H
     obtain ⟨ak, A70, H⟩ := H
     replace H : (if ak > 4096 then (some (([] : List (S41)), 6)) else ((some (([0, 1, 0, wrap64 (14 + (wrap64 (6 * ak))), 1, ak] : List Int) : List Int)).bind fun ar => ((pochoirref40_three.f aA ak).bind fun ap => (if ar.length + ap.length < 17592186044416 then (pochoirref40_Parse.l0 aA a0 a1 ak (ar ++ ap) 0) else (none))))) = some (r1, r2) := H
     have A7 := Aside0.mk A70
     clear A70
     by_cases c8 : ak > 4096
     ·rw [if_pos c8] at H
      have be : decide (4096 < ak) = true := decide_eq_true c8
      clear c8
      simp only [Option.some.injEq, Prod.mk.injEq] at H
      obtain ⟨rfl, rfl⟩ := H
      go_wp2_with (first | ((with_reducible refine gate_callee (f := 34) rfl ?_); refine goesL_ (some 22) rfl rfl Try.func34 (by kernel_rfl) rfl #[.string a0, .int .i64 10] rfl (by (try simp only [List.map_toArray, List.map_cons, List.map_nil]); first | done | rfl | (simp only [List.length_drop, List.length_take]; rfl)) ?_; (with_reducible refine (pochoirref40_u16.calls aA a0 10 ak _ A7.out).mono ?_); rintro e w' ⟨rfl, ⟨nd, rfl⟩⟩; refine ⟨_, rfl, ?_⟩))
      go_ret2
      exact ⟨_, by first | rfl | (simp [errW_none, errW_some] <;> rfl) | (simp [*, errW_none, errW_some] <;> rfl), by first | exact Kd.R_nil _ _ _ _ _ | exact Kd.N_nil _ _ _ _ _ | exact Kd.V_nil _ _ _ _ _ | exact Kd.Q_nil _ _ _ _ _ | exact Kd.S_nil _ _ _ _ _, by exact lB HB.out⟩
     ·rw [if_neg c8] at H
      have be : decide (4096 < ak) = false := decide_eq_false c8
      clear c8
      obtain ⟨ar, aT⟩ : ∃ y_ : List Int, y_ = (([0, 1, 0, wrap64 (14 + (wrap64 (6 * ak))), 1, ak] : List Int)) := ⟨_, rfl⟩
      replace H : ((pochoirref40_three.f aA ak).bind fun ap => (if ar.length + ap.length < 17592186044416 then (pochoirref40_Parse.l0 aA a0 a1 ak (ar ++ ap) 0) else (none))) = some (r1, r2) := by first | (rw [aT]; with_reducible exact H) | (have H2_ := (Option.bind_some _ _).symm.trans H; rw [aT]; with_reducible exact H2_) | (have H2_ := (Option.bind_some _ _).symm.trans H; with_reducible exact H2_) | with_reducible exact H | (rw [aT]; exact H) | exact H
      have Ny264 := Aside0.mk aT
      clear aT
      replace H := Option.bind_eq_some_iff.mp H
      obtain ⟨ap, A90, H⟩ := H
      replace H : (if ar.length + ap.length < 17592186044416 then (pochoirref40_Parse.l0 aA a0 a1 ak (ar ++ ap) 0) else (none)) = some (r1, r2) := H
      have A9 := Aside0.mk A90
      clear A90
      by_cases c10 : ar.length + ap.length < 17592186044416
      ·rw [if_pos c10] at H
       have LMc10 := Aside0.mk c10
       clear c10
       obtain ⟨aq, aU⟩ : ∃ y_ : List Int, y_ = (ar ++ ap) := ⟨_, rfl⟩
       replace H : (pochoirref40_Parse.l0 aA a0 a1 ak aq 0) = some (r1, r2) := by first | (rw [aU]; with_reducible exact H) | (have H2_ := (Option.bind_some _ _).symm.trans H; rw [aU]; with_reducible exact H2_) | (have H2_ := (Option.bind_some _ _).symm.trans H; with_reducible exact H2_) | with_reducible exact H | (rw [aU]; exact H) | exact H
       have Ny270 := Aside0.mk aU
       clear aU
       have H' := Aside0.mk H
       clear H
       go_wp2_with (first | ((with_reducible refine gate_callee (f := 34) rfl ?_); refine goesL_ (some 22) rfl rfl Try.func34 (by kernel_rfl) rfl #[.string a0, .int .i64 10] rfl (by (try simp only [List.map_toArray, List.map_cons, List.map_nil]); first | done | rfl | (simp only [List.length_drop, List.length_take]; rfl)) ?_; (with_reducible refine (pochoirref40_u16.calls aA a0 10 ak _ A7.out).mono ?_); rintro e w' ⟨rfl, ⟨nd, rfl⟩⟩; refine ⟨_, rfl, ?_⟩) | ((with_reducible refine gate_dst (N := 29) rfl ?_); refine Kd.R_lit (Kd.int .i64) _ 3 ?hg (N := 29) ?hd (xs := ([0, 1, 0, wrap64 (14 + (wrap64 (6 * ak))), 1, ak] : List Int)) (inner := [.int .i64 0, .int .i64 1, .int .i64 0, .int .i64 (wrap64 (14 + (wrap64 (6 * ak)))), .int .i64 1, .int .i64 ak]) (ok := fun _ => True) (okp := fun _ => True) ?hr ?hp (fun _ hk => hk) trivial (Below.refl _ _) (Nat.le_refl _) (by simp) ?_; (case hd => rfl); (case hg => rfl); (case hr => first | (go_simp; done) | (go_simp; rfl)); (case hp => exact (Reps.one (show Kd.M (Kd.int .i64) _ _ _ 0 [.int .i64 0] from rfl) (Reps.one (show Kd.M (Kd.int .i64) _ _ _ 1 [.int .i64 1] from rfl) (Reps.one (show Kd.M (Kd.int .i64) _ _ _ 0 [.int .i64 0] from rfl) (Reps.one (show Kd.M (Kd.int .i64) _ _ _ (wrap64 (14 + (wrap64 (6 * ak)))) [.int .i64 (wrap64 (14 + (wrap64 (6 * ak))))] from rfl) (Reps.one (show Kd.M (Kd.int .i64) _ _ _ 1 [.int .i64 1] from rfl) (Reps.one (show Kd.M (Kd.int .i64) _ _ _ ak [.int .i64 ak] from rfl) (Reps.none _ _)))))))); intro v265 cC aZ hb hg_ hnew_; clear hg_ hnew_; (first | rw [← Ny264.out] at aZ | (simp only [Int.reduceToNat] at aZ; rw [← Ny264.out] at aZ)); have af := Aside0.mk (Kd.R_lower aZ (below_size (by exact lB HB.out))); have ag := Aside0.mk (below_step (by exact lB HB.out) hb); clear HB; have aM := af; have HB := ag; clear af ag; clear hb aZ) | ((with_reducible refine gate_callee (f := 23) rfl ?_); refine goesL_ (some 32) rfl rfl Try.func23 (by kernel_rfl) rfl #[.int .i64 ak] rfl (by (try simp only [List.map_toArray, List.map_cons, List.map_nil]); first | done | rfl | (simp only [List.length_drop, List.length_take]; rfl)) ?_; (with_reducible refine (pochoirref40_three.calls aA ak ap _ A9.out).mono ?_); rintro e cD ⟨v268, rfl, bl, hb⟩; refine ⟨_, rfl, ?_⟩; have af := Aside0.mk (Kd.R_elder' (by (with_reducible repeat (first | apply Kd.R_alloc | apply Kd.R_drewN | apply Kd.R_drew)); exact aM.out) (Kd.R_base bl) hb); have ag := Aside0.mk (Kd.R_lower (Kd.R_new' bl (Kd.R_lt (by (with_reducible repeat (first | apply Kd.R_alloc | apply Kd.R_drewN | apply Kd.R_drew)); exact aM.out))) (below_size (by exact lB HB.out))); have al := Aside0.mk (below_step (by exact lB HB.out) hb); clear aM; clear HB; have aM := af; have aN := ag; have HB := al; clear af ag al; (try clear hb); (try clear a2); (try clear hk); (try clear hi); (try clear bl); obtain ⟨bC, bD, eo15⟩ := Kd.R_slice aN.out; subst eo15) | ((with_reducible refine gate_builtin (b := .append) (xs := #[.tmp 30, .tmp 32]) rfl ?_); at_builtin; refine Kd.R_append_rows (Kd.int .i64) (w0 := w) w.heap.size rfl (.tmp 30) (.tmp 32) 58 3 (.int .i64 0) 8 rfl Try.underlying58 info3 rfl (by decide) (by omega) v265 ar ap _ _ _ (fun k_ => some k_ ≠ (.slice bC ap.length bD : Value).ownBlock) (fun _ => False) rfl rfl ?aO ?aR (fun _ _ h => h) (fun _ h => h.elim) ?aF ?aB ?aS ?aL ?_; (case aR => repeat (first | exact (Kd.R_reads' aN.out).2.2 | (with_reducible refine Kd.C_alloc ?_ _) | (with_reducible refine Kd.C_drewN ?_ _) | (with_reducible refine Kd.C_drew ?_))); (case aB => exact (by exact lB HB.out)); (case aF => exact (fun k_ hk => Kd.fresh' (Kd.R_lt (by (with_reducible repeat (first | apply Kd.R_alloc | apply Kd.R_drewN | apply Kd.R_drew)); exact aN.out)) k_ hk)); (case aO => exact (by (with_reducible repeat (first | apply Kd.R_alloc | apply Kd.R_drewN | apply Kd.R_drew)); exact Kd.R_mono aM.out (fun _ hk => hk.2))); (case aS => exact (below_size (by exact lB HB.out))); (case aL => have := LMc10.out; omega); intro v271 cE ho hb hg hat; rw [← Ny270.out] at ho; have af := Aside0.mk (Kd.R_after (ok := (fun _ => True)) (by (with_reducible repeat (first | apply Kd.R_alloc | apply Kd.R_drewN | apply Kd.R_drew)); exact aN.out) hg hat); have ag := Aside0.mk (hb); have al := Aside0.mk (ho); clear aN; clear HB; clear aM; have aN := af; have HB := ag; have bq := al; clear af ag al; clear ho hb hg hat))
       go_loopg [8] aA (fun kq v8 w' => ∃ (an : Int), v8 = .int .i64 an ∧ Aside0 (pochoirref40_Parse.l0 kq a0 a1 ak aq an = some (r1, r2)) ∧ Aside0 (kq ≤ aA) ∧ Aside0 (Kd.R (Kd.int .i64) 3 w' w.heap.size (fun _ => True) v271 aq) ∧ Aside0 (Below w.heap.size w w'))
       case atStart => exact ⟨(0), (by first | rfl | (simp; done) | (simp [*]; done)), H', ⟨Nat.le_refl _⟩, ⟨by (with_reducible repeat (first | apply Kd.R_alloc | apply Kd.R_drewN | apply Kd.R_drew)); exact Kd.R_mono bq.out (fun _ hk => trivial)⟩, ⟨by exact lB HB.out⟩⟩
       case round =>
        clear H'
        try clear c1
        try clear c2
        try clear p2
        try clear c3
        try clear c4
        try clear aK
        try clear c5
        try clear c6
        try clear bc
        try clear bd
        try clear p6
        try clear c8
        try clear be
        try clear c10
        try clear c15
        try clear p2
        obtain ⟨an, rfl, HA, HK2, au, HB⟩ := hrel
        cases gk with
        | zero => exact absurd HA.out (by simp [pochoirref40_Parse.l0])
        | succ k2 =>
         have H := HA.out
         clear HA
         simp only [pochoirref40_Parse.l0] at H
         by_cases c16 : an < 9
         ·rw [if_pos c16] at H
          have bf : decide (an < 9) = true := decide_eq_true c16
          clear c16
          replace H := Option.bind_eq_some_iff.mp H
          obtain ⟨aE, A170, H⟩ := H
          replace H : (if 0 ≤ an then (if an < (aq.length : Int) then (if aE = (rd aq an) then (pochoirref40_Parse.l0 k2 a0 a1 ak aq (wrap64 (an + 1))) else (some (([] : List (S41)), 4))) else (none)) else (none)) = some (r1, r2) := H
          have A17 := Aside0.mk A170
          clear A170
          by_cases c18 : 0 ≤ an
          ·rw [if_pos c18] at H
           have br : decide (0 ≤ an) = true := decide_eq_true c18
           clear c18
           by_cases c19 : an < (aq.length : Int)
           ·rw [if_pos c19] at H
            have bs : decide (an < (aq.length : Int)) = true := decide_eq_true c19
            clear c19
            by_cases c20 : aE = (rd aq an)
            ·rw [if_pos c20] at H
             have bg : (aE == (rd aq an)) = true := beq_iff_eq.mpr c20
             have bh : (aE != (rd aq an)) = false := bne_eq_false_iff_eq.mpr c20
             clear c20
             have H' := Aside0.mk H
             clear H
             try go_wp2
             have af := Aside0.mk (Kd.R_drew au.out)
             have ag := Aside0.mk (below_drew1 HB.out)
             clear au
             clear HB
             have au := af
             have HB := ag
             clear af ag
             obtain ⟨cv, cw, eo22⟩ := Kd.R_slice au.out
             (first | subst eo22 | (injection eo22 with f1_ f2_ f3_; have f4_ := f1_.symm; have f5_ := f3_.symm; clear f1_ f2_ f3_; subst f4_; subst f5_))
             have p274 : 0 ≤ (an : Int) := of_decide_eq_true (by first | (with_reducible assumption) | assumption)
             have q274 : an < (aq.length : Int) := of_decide_eq_true (by first | (with_reducible assumption) | assumption)
             obtain ⟨ad274, e274, ax⟩ := Kd.at_int (Kd.R_reads' au.out).2.2 an p274 q274
             cases e274
             replace p274 := eq_true p274
             replace q274 := eq_true q274
             refine start_ (n := 9) (S := fun w' => w'.cell? (ad274.add (an).toNat) = some (.int .i64 (rd aq an))) (ds := []) #[false, false, false, false, false, false, false, false, false] (by kernel_rfl) rfl rfl (ax) (fun hHeld => ?_); refine with_tabW pochoirref40_Parse.tab13 pochoirref40_Parse.bits13 (fun HT_ HW_ => ?_)
             generalize wr.drew = cF at au HB ax hHeld ⊢
             refine pure_ (i := 0) (N := some 38) (v := ?_) (a' := ?_) #[true, false, false, false, false, false, false, false, false] rfl rfl (any_of HT_.out (by kernel_rfl)) (fun _ _ _ h => h) (Or.inl ⟨by rfl, ?_⟩) ?_ ?_
             rotate_left
             ·intro w'
              go_simp
              with_reducible rfl
             rotate_left
             ·exact pA
             refine pure_ (i := 1) (N := some 39) (v := ?_) (a' := ?_) #[true, true, false, false, false, false, false, false, false] rfl rfl (any_of HT_.out (by kernel_rfl)) (fun _ _ _ h => h) (Or.inl ⟨by rfl, ?_⟩) ?_ ?_
             rotate_left
             ·intro w'
              go_simp
              with_reducible rfl
             rotate_left
             ·exact pA
             refine pure_ (i := 2) (N := some 40) (v := ?_) (a' := ?_) #[true, true, true, false, false, false, false, false, false] rfl rfl (any_of HT_.out (by kernel_rfl)) (fun _ _ _ h => h) (Or.inl ⟨by rfl, ?_⟩) ?_ ?_
             rotate_left
             ·intro w'
              go_simp
              with_reducible rfl
             rotate_left
             ·exact pA
             refine pure_ (i := 4) (N := some 42) (v := ?_) (a' := ?_) #[true, true, true, false, true, false, false, false, false] rfl rfl (any_of HT_.out (by kernel_rfl)) (fun _ _ _ h => h) (Or.inl ⟨by rfl, ?_⟩) ?_ ?_
             rotate_left
             ·intro w'
              go_simp
              with_reducible rfl
             rotate_left
             ·exact pA
             refine pure_ (i := 5) (N := some 43) (v := ?_) (a' := ?_) #[true, true, true, false, true, true, false, false, false] rfl rfl (any_of HT_.out (by kernel_rfl)) (fun _ _ _ h => h) (Or.inl ⟨by rfl, ?_⟩) ?_ ?_
             rotate_left
             ·intro w'
              go_simp
              with_reducible rfl
             rotate_left
             ·exact pA
             refine pure_ (i := 6) (N := some 44) (v := ?_) (a' := ?_) #[true, true, true, false, true, true, true, false, false] rfl rfl (any_of HT_.out (by kernel_rfl)) (fun _ _ _ h => h) (Or.inl ⟨by rfl, ?_⟩) ?_ ?_
             rotate_left
             ·intro w'
              go_simp
              with_reducible rfl
             rotate_left
             ·exact pA
             refine take_ (i := 7) (N := some 45) (v := ?_) (a' := ?_) #[true, true, true, false, true, true, true, true, false] rfl rfl (take_ofW HT_.out HW_.out (by kernel_rfl)) (fun _ _ _ h => h) (Or.inl ⟨by rfl, ?_⟩) hHeld ?_ ?_
             rotate_left
             ·intro w' s0
              go_simp
              with_reducible rfl
             rotate_left
             ·exact pA
             refine one_ (i := 3) (N := some 41) #[true, true, true, true, true, true, true, true, false] rfl rfl (one_of HT_.out (by kernel_rfl)) (by decide) (fun K hK => ?_)
             refine goes_ Try.func34 (by kernel_rfl) rfl #[.string a0, .int .i64 (wrap64 (2 * an))] (by rfl) rfl rfl (by (try simp only [List.map_toArray, List.map_cons, List.map_nil]); first | done | rfl | (simp only [List.length_drop, List.length_take]; rfl)) ?_
             with_reducible refine (pochoirref40_u16.calls k2 a0 (wrap64 (2 * an)) aE _ A17.out).mono ?_
             rintro e w' ⟨rfl, ⟨nd, rfl⟩⟩
             refine ⟨_, rfl, ?_⟩
             refine hK.out _ _ (hHeld) (fun hHeld => ?_)
             clear hK K
             refine norm_ (a' := ?_) ?_ ?_
             rotate_left
             ·show Act.put _ (some 41) _ = _
              exact pA
             refine pure_ (i := 8) (N := some 46) (v := ?_) (a' := ?_) #[true, true, true, true, true, true, true, true, true] rfl rfl (any_of HT_.out (by kernel_rfl)) (fun _ _ _ h => h) (Or.inl ⟨by rfl, ?_⟩) ?_ ?_
             rotate_left
             ·intro w'
              go_simp
              with_reducible rfl
             rotate_left
             ·exact pA
             refine done_ (done_of HT_.out (by kernel_rfl)) ?_
             try go_wp2
             go_roundg k2
             case measure => have := a8.out; have := HK2.out; omega
             case rel => exact ⟨(wrap64 (an + 1)), (by first | rfl | (simp; done) | (simp [*]; done)), H', ⟨by have := a8.out; have := HK2.out; omega⟩, ⟨by (with_reducible repeat (first | apply Kd.R_alloc | apply Kd.R_drewN | apply Kd.R_drew)); exact au.out⟩, ⟨by exact lB HB.out⟩⟩
            ·rw [if_neg c20] at H
             have bg : (aE == (rd aq an)) = false := beq_eq_false_iff_ne.mpr c20
             have bh : (aE != (rd aq an)) = true := bne_iff_ne.mpr c20
             simp only [Option.some.injEq, Prod.mk.injEq] at H
             obtain ⟨rfl, rfl⟩ := H
             try go_wp2
             have af := Aside0.mk (Kd.R_drew au.out)
             have ag := Aside0.mk (below_drew1 HB.out)
             clear au
             clear HB
             have au := af
             have HB := ag
             clear af ag
             obtain ⟨cx, cy, eo24⟩ := Kd.R_slice au.out
             (first | subst eo24 | (injection eo24 with f1_ f2_ f3_; have f4_ := f1_.symm; have f5_ := f3_.symm; clear f1_ f2_ f3_; subst f4_; subst f5_))
             have p274 : 0 ≤ (an : Int) := of_decide_eq_true (by first | (with_reducible assumption) | assumption)
             have q274 : an < (aq.length : Int) := of_decide_eq_true (by first | (with_reducible assumption) | assumption)
             obtain ⟨ad274, e274, ax⟩ := Kd.at_int (Kd.R_reads' au.out).2.2 an p274 q274
             cases e274
             replace p274 := eq_true p274
             replace q274 := eq_true q274
             refine start_ (n := 9) (S := fun w' => w'.cell? (ad274.add (an).toNat) = some (.int .i64 (rd aq an))) (ds := []) #[false, false, false, false, false, false, false, false, false] (by kernel_rfl) rfl rfl (ax) (fun hHeld => ?_); refine with_tabW pochoirref40_Parse.tab13 pochoirref40_Parse.bits13 (fun HT_ HW_ => ?_)
             generalize wr.drew = cG at au HB ax hHeld ⊢
             refine pure_ (i := 0) (N := some 38) (v := ?_) (a' := ?_) #[true, false, false, false, false, false, false, false, false] rfl rfl (any_of HT_.out (by kernel_rfl)) (fun _ _ _ h => h) (Or.inl ⟨by rfl, ?_⟩) ?_ ?_
             rotate_left
             ·intro w'
              go_simp
              with_reducible rfl
             rotate_left
             ·exact pA
             refine pure_ (i := 1) (N := some 39) (v := ?_) (a' := ?_) #[true, true, false, false, false, false, false, false, false] rfl rfl (any_of HT_.out (by kernel_rfl)) (fun _ _ _ h => h) (Or.inl ⟨by rfl, ?_⟩) ?_ ?_
             rotate_left
             ·intro w'
              go_simp
              with_reducible rfl
             rotate_left
             ·exact pA
             refine pure_ (i := 2) (N := some 40) (v := ?_) (a' := ?_) #[true, true, true, false, false, false, false, false, false] rfl rfl (any_of HT_.out (by kernel_rfl)) (fun _ _ _ h => h) (Or.inl ⟨by rfl, ?_⟩) ?_ ?_
             rotate_left
             ·intro w'
              go_simp
              with_reducible rfl
             rotate_left
             ·exact pA
             refine pure_ (i := 4) (N := some 42) (v := ?_) (a' := ?_) #[true, true, true, false, true, false, false, false, false] rfl rfl (any_of HT_.out (by kernel_rfl)) (fun _ _ _ h => h) (Or.inl ⟨by rfl, ?_⟩) ?_ ?_
             rotate_left
             ·intro w'
              go_simp
              with_reducible rfl
             rotate_left
             ·exact pA
             refine pure_ (i := 5) (N := some 43) (v := ?_) (a' := ?_) #[true, true, true, false, true, true, false, false, false] rfl rfl (any_of HT_.out (by kernel_rfl)) (fun _ _ _ h => h) (Or.inl ⟨by rfl, ?_⟩) ?_ ?_
             rotate_left
             ·intro w'
              go_simp
              with_reducible rfl
             rotate_left
             ·exact pA
             refine pure_ (i := 6) (N := some 44) (v := ?_) (a' := ?_) #[true, true, true, false, true, true, true, false, false] rfl rfl (any_of HT_.out (by kernel_rfl)) (fun _ _ _ h => h) (Or.inl ⟨by rfl, ?_⟩) ?_ ?_
             rotate_left
             ·intro w'
              go_simp
              with_reducible rfl
             rotate_left
             ·exact pA
             refine take_ (i := 7) (N := some 45) (v := ?_) (a' := ?_) #[true, true, true, false, true, true, true, true, false] rfl rfl (take_ofW HT_.out HW_.out (by kernel_rfl)) (fun _ _ _ h => h) (Or.inl ⟨by rfl, ?_⟩) hHeld ?_ ?_
             rotate_left
             ·intro w' s0
              go_simp
              with_reducible rfl
             rotate_left
             ·exact pA
             refine one_ (i := 3) (N := some 41) #[true, true, true, true, true, true, true, true, false] rfl rfl (one_of HT_.out (by kernel_rfl)) (by decide) (fun K hK => ?_)
             refine goes_ Try.func34 (by kernel_rfl) rfl #[.string a0, .int .i64 (wrap64 (2 * an))] (by rfl) rfl rfl (by (try simp only [List.map_toArray, List.map_cons, List.map_nil]); first | done | rfl | (simp only [List.length_drop, List.length_take]; rfl)) ?_
             with_reducible refine (pochoirref40_u16.calls k2 a0 (wrap64 (2 * an)) aE _ A17.out).mono ?_
             rintro e w' ⟨rfl, ⟨nd, rfl⟩⟩
             refine ⟨_, rfl, ?_⟩
             refine hK.out _ _ (hHeld) (fun hHeld => ?_)
             clear hK K
             refine norm_ (a' := ?_) ?_ ?_
             rotate_left
             ·show Act.put _ (some 41) _ = _
              exact pA
             refine pure_ (i := 8) (N := some 46) (v := ?_) (a' := ?_) #[true, true, true, true, true, true, true, true, true] rfl rfl (any_of HT_.out (by kernel_rfl)) (fun _ _ _ h => h) (Or.inl ⟨by rfl, ?_⟩) ?_ ?_
             rotate_left
             ·intro w'
              go_simp
              with_reducible rfl
             rotate_left
             ·exact pA
             refine done_ (done_of HT_.out (by kernel_rfl)) ?_
             try go_wp2
             go_ret2
             exact ⟨_, by first | rfl | (simp [errW_none, errW_some] <;> rfl) | (simp [*, errW_none, errW_some] <;> rfl), by first | exact Kd.R_nil _ _ _ _ _ | exact Kd.N_nil _ _ _ _ _ | exact Kd.V_nil _ _ _ _ _ | exact Kd.Q_nil _ _ _ _ _ | exact Kd.S_nil _ _ _ _ _, by exact lB HB.out⟩
           ·rw [if_neg c19] at H
            exact absurd H (by simp)
          ·rw [if_neg c18] at H
           exact absurd H (by simp)
         ·rw [if_neg c16] at H
          have bf : decide (an < 9) = false := decide_eq_false c16
          clear c16
          by_cases c25 : (a0.size : Int) < (wrap64 (18 + (wrap64 (6 * ak))))
          ·rw [if_pos c25] at H
           have bi : decide ((a0.size : Int) < (wrap64 (18 + (wrap64 (6 * ak))))) = true := decide_eq_true c25
           clear c25
           simp only [Option.some.injEq, Prod.mk.injEq] at H
           obtain ⟨rfl, rfl⟩ := H
           go_wp2
           go_ret2
           exact ⟨_, by first | rfl | (simp [errW_none, errW_some] <;> rfl) | (simp [*, errW_none, errW_some] <;> rfl), by first | exact Kd.R_nil _ _ _ _ _ | exact Kd.N_nil _ _ _ _ _ | exact Kd.V_nil _ _ _ _ _ | exact Kd.Q_nil _ _ _ _ _ | exact Kd.S_nil _ _ _ _ _, by exact lB HB.out⟩
          ·rw [if_neg c25] at H
           have bi : decide ((a0.size : Int) < (wrap64 (18 + (wrap64 (6 * ak))))) = false := decide_eq_false c25
           clear c25
           have H' := Aside0.mk H
           clear H
           go_wp2
           go_loopg [9, 10] k2 (fun kq v9 v10 w' => ∃ (ai : List (S41)) (ae : Int), v10 = .int .i64 ae ∧ Aside0 (pochoirref40_Parse.l1 kq a0 a1 ak ai ae = some (r1, r2)) ∧ Aside0 (kq ≤ k2) ∧ Aside0 (Kd.R k41 41 w' w.heap.size (fun _ => True) v9 ai) ∧ Aside0 (Below w.heap.size w w'))
           case atStart => exact ⟨(([] : List (S41))), (0), (by first | rfl | (simp; done) | (simp [*]; done)), H', ⟨Nat.le_refl _⟩, ⟨by first | exact Kd.R_nil _ _ _ _ _ | exact Kd.N_nil _ _ _ _ _ | exact Kd.V_nil _ _ _ _ _ | exact Kd.Q_nil _ _ _ _ _ | exact Kd.S_nil _ _ _ _ _⟩, ⟨by exact lB HB.out⟩⟩
           case round =>
            clear H'
            try clear c1
            try clear c2
            try clear p2
            try clear q2
            try clear cH
            try clear c3
            try clear c4
            try clear aK
            try clear c5
            try clear c6
            try clear bc
            try clear bd
            try clear p6
            try clear c8
            try clear be
            try clear c10
            try clear c15
            try clear c16
            try clear bf
            try clear c18
            try clear br
            try clear c19
            try clear bs
            try clear c20
            try clear bg
            try clear bh
            try clear c23
            try clear c25
            try clear bi
            try clear ax
            try clear p2
            try clear p274
            try clear p6
            try clear q274
            obtain ⟨ai, ae, rfl, HA, HK3, ac, HB⟩ := hrel
            cases gk with
            | zero => exact absurd HA.out (by simp [pochoirref40_Parse.l1])
            | succ k3 =>
             have H := HA.out
             clear HA
             simp only [pochoirref40_Parse.l1] at H
             by_cases c26 : ae < ak
             ·rw [if_pos c26] at H
              have bu : decide (ae < ak) = true := decide_eq_true c26
              clear c26
              replace H := Option.bind_eq_some_iff.mp H
              obtain ⟨ad, A270, H⟩ := H
              replace H : ((pochoirref40_u16.f k3 a0 (wrap64 (20 + (wrap64 (6 * ae))))).bind fun ah => ((pochoirref07_Signed.f k3 a0 (wrap64 (22 + (wrap64 (6 * ae))))).bind fun aj => (if ad ≥ a1 then (some (([] : List (S41)), 4)) else (if ah ≥ a1 then (some (([] : List (S41)), 4)) else (if ae > 0 then (if 0 ≤ (wrap64 (ae - 1)) then (if (wrap64 (ae - 1)) < (ai.length : Int) then ((pochoirref40_after.f ad ah aj ((rd_T41 ai (wrap64 (ae - 1))).f0) ((rd_T41 ai (wrap64 (ae - 1))).f1) ((rd_T41 ai (wrap64 (ae - 1))).f2)).bind fun av => (if av = true then (if ai.length < 5864062014805 then (pochoirref40_Parse.l1 k3 a0 a1 ak (ai ++ [(⟨ad, ah, aj⟩ : S41)]) (wrap64 (ae + 1))) else (none)) else (some (([] : List (S41)), 4)))) else (none)) else (none)) else (if ai.length < 5864062014805 then (pochoirref40_Parse.l1 k3 a0 a1 ak (ai ++ [(⟨ad, ah, aj⟩ : S41)]) (wrap64 (ae + 1))) else (none))))))) = some (r1, r2) := H
              have A27 := Aside0.mk A270
              clear A270
              replace H := Option.bind_eq_some_iff.mp H
              obtain ⟨ah, A280, H⟩ := H
              replace H : ((pochoirref07_Signed.f k3 a0 (wrap64 (22 + (wrap64 (6 * ae))))).bind fun aj => (if ad ≥ a1 then (some (([] : List (S41)), 4)) else (if ah ≥ a1 then (some (([] : List (S41)), 4)) else (if ae > 0 then (if 0 ≤ (wrap64 (ae - 1)) then (if (wrap64 (ae - 1)) < (ai.length : Int) then ((pochoirref40_after.f ad ah aj ((rd_T41 ai (wrap64 (ae - 1))).f0) ((rd_T41 ai (wrap64 (ae - 1))).f1) ((rd_T41 ai (wrap64 (ae - 1))).f2)).bind fun av => (if av = true then (if ai.length < 5864062014805 then (pochoirref40_Parse.l1 k3 a0 a1 ak (ai ++ [(⟨ad, ah, aj⟩ : S41)]) (wrap64 (ae + 1))) else (none)) else (some (([] : List (S41)), 4)))) else (none)) else (none)) else (if ai.length < 5864062014805 then (pochoirref40_Parse.l1 k3 a0 a1 ak (ai ++ [(⟨ad, ah, aj⟩ : S41)]) (wrap64 (ae + 1))) else (none)))))) = some (r1, r2) := H
              have A28 := Aside0.mk A280
              clear A280
              replace H := Option.bind_eq_some_iff.mp H
              obtain ⟨aj, A290, H⟩ := H
              replace H : (if ad ≥ a1 then (some (([] : List (S41)), 4)) else (if ah ≥ a1 then (some (([] : List (S41)), 4)) else (if ae > 0 then (if 0 ≤ (wrap64 (ae - 1)) then (if (wrap64 (ae - 1)) < (ai.length : Int) then ((pochoirref40_after.f ad ah aj ((rd_T41 ai (wrap64 (ae - 1))).f0) ((rd_T41 ai (wrap64 (ae - 1))).f1) ((rd_T41 ai (wrap64 (ae - 1))).f2)).bind fun av => (if av = true then (if ai.length < 5864062014805 then (pochoirref40_Parse.l1 k3 a0 a1 ak (ai ++ [(⟨ad, ah, aj⟩ : S41)]) (wrap64 (ae + 1))) else (none)) else (some (([] : List (S41)), 4)))) else (none)) else (none)) else (if ai.length < 5864062014805 then (pochoirref40_Parse.l1 k3 a0 a1 ak (ai ++ [(⟨ad, ah, aj⟩ : S41)]) (wrap64 (ae + 1))) else (none))))) = some (r1, r2) := H
              have A29 := Aside0.mk A290
              clear A290
              by_cases c30 : ad ≥ a1
              ·rw [if_pos c30] at H
               have bv : decide (a1 ≤ ad) = true := decide_eq_true c30
               clear c30
               simp only [Option.some.injEq, Prod.mk.injEq] at H
               obtain ⟨rfl, rfl⟩ := H
               try go_wp2_with (first | ((with_reducible refine gate_callee (f := 34) rfl ?_); refine goesL_ (some 62) rfl rfl Try.func34 (by kernel_rfl) rfl #[.string a0, .int .i64 (wrap64 (18 + (wrap64 (6 * ae))))] rfl (by (try simp only [List.map_toArray, List.map_cons, List.map_nil]); first | done | rfl | (simp only [List.length_drop, List.length_take]; rfl)) ?_; (with_reducible refine (pochoirref40_u16.calls k3 a0 (wrap64 (18 + (wrap64 (6 * ae)))) ad _ A27.out).mono ?_); rintro e w' ⟨rfl, ⟨nd, rfl⟩⟩; refine ⟨_, rfl, ?_⟩; (try (rw [drewN_self wr]; generalize hq_ : World.drewN wr _ = wr; have af : Aside0 (Kd.R k41 41 wr w.heap.size (fun _ => True) u9 ai) := ⟨by rw [← hq_]; exact (by (with_reducible repeat (first | apply Kd.R_alloc | apply Kd.R_drewN | apply Kd.R_drew)); exact ac.out)⟩; have ag : Aside0 (Below w.heap.size w wr) := ⟨by rw [← hq_]; exact (by exact lB HB.out)⟩; clear ac HB hq_; have ac := af; have HB := ag; clear af ag))) | ((with_reducible refine gate_callee (f := 34) rfl ?_); refine goesL_ (some 67) rfl rfl Try.func34 (by kernel_rfl) rfl #[.string a0, .int .i64 (wrap64 (20 + (wrap64 (6 * ae))))] rfl (by (try simp only [List.map_toArray, List.map_cons, List.map_nil]); first | done | rfl | (simp only [List.length_drop, List.length_take]; rfl)) ?_; (with_reducible refine (pochoirref40_u16.calls k3 a0 (wrap64 (20 + (wrap64 (6 * ae)))) ah _ A28.out).mono ?_); rintro e w' ⟨rfl, ⟨nd, rfl⟩⟩; refine ⟨_, rfl, ?_⟩; (try (rw [drewN_self wr]; generalize hq_ : World.drewN wr _ = wr; have af : Aside0 (Kd.R k41 41 wr w.heap.size (fun _ => True) u9 ai) := ⟨by rw [← hq_]; exact (by (with_reducible repeat (first | apply Kd.R_alloc | apply Kd.R_drewN | apply Kd.R_drew)); exact ac.out)⟩; have ag : Aside0 (Below w.heap.size w wr) := ⟨by rw [← hq_]; exact (by exact lB HB.out)⟩; clear ac HB hq_; have ac := af; have HB := ag; clear af ag))) | ((with_reducible refine gate_callee (f := 35) rfl ?_); refine goesL_ (some 72) rfl rfl Try.func35 (by kernel_rfl) rfl #[.string a0, .int .i64 (wrap64 (22 + (wrap64 (6 * ae))))] rfl (by (try simp only [List.map_toArray, List.map_cons, List.map_nil]); first | done | rfl | (simp only [List.length_drop, List.length_take]; rfl)) ?_; (with_reducible refine (pochoirref07_Signed.calls k3 a0 (wrap64 (22 + (wrap64 (6 * ae)))) aj _ A29.out).mono ?_); rintro e cI ⟨rfl, hb⟩; refine ⟨_, rfl, ?_⟩; have af := Aside0.mk (Kd.R_below (by (with_reducible repeat (first | apply Kd.R_alloc | apply Kd.R_drewN | apply Kd.R_drew)); exact ac.out) hb); have ag := Aside0.mk (below_step (by exact lB HB.out) hb); clear ac; clear HB; have ac := af; have HB := ag; clear af ag; (try clear hb); (try clear a2); (try clear hk); (try clear hi)) | ((with_reducible refine gate_dst (N := 11) rfl ?_); refine box_event ?hg (N := 11) ?hd (cs := #[.int .i64 0, .int .i64 0, .int .i64 0]) (t := 41) ?hr ?_; (case hd => rfl); (case hg => rfl); (case hr => first | (go_simp; done) | (go_simp; rfl)); intro aa hg a3 hbox hb; have af := Aside0.mk (Kd.R_below (Kd.R_elderB (by (with_reducible repeat (first | apply Kd.R_alloc | apply Kd.R_drewN | apply Kd.R_drew)); exact ac.out) aa (Nat.le_of_eq hg.symm)) hb); have ag := Aside0.mk (below_step (by exact lB HB.out) hb); have al := Aside0.mk (hbox); have aC := Aside0.mk ((by rw [hg]; exact (below_size (by exact lB HB.out)) : w.heap.size ≤ aa)); have aD := Aside0.mk ((by rw [hg]; exact (below_size (by exact lB HB.out)) : w.heap.size ≤ aa)); clear ac; clear HB; have ac := af; have HB := ag; have ab := al; have aY := aC; have ao := aD; clear af ag al aC aD; clear hb hbox hg; have bF : a3.cell? ⟨aa, 0, none⟩ = some (.int .i64 0) := (blk_cell ab.out 0).trans rfl; have bG : a3.cell? ⟨aa, 1, none⟩ = some (.int .i64 0) := (blk_cell ab.out 1).trans rfl; have bH : a3.cell? ⟨aa, 2, none⟩ = some (.int .i64 0) := (blk_cell ab.out 2).trans rfl; have bI := blk_frozen ab.out 0; have bJ := blk_frozen ab.out 1; have bK := blk_frozen ab.out 2))
               have af : Aside0 (Kd.R k41 41 (((a3.setCell ⟨aa, 0, none⟩ (.int .i64 ad)).setCell ⟨aa, 1, none⟩ (.int .i64 ah)).setCell ⟨aa, 2, none⟩ (.int .i64 aj)) w.heap.size (fun k_ => k_ ≠ aa) u9 ai) := ⟨by (with_reducible repeat (first | apply Kd.R_alloc | apply Kd.R_drewN | apply Kd.R_drew)); exact Kd.R_mono (Kd.R_far (p := ⟨aa, 2, none⟩) (Kd.R_far (p := ⟨aa, 1, none⟩) (Kd.R_far (p := ⟨aa, 0, none⟩) (Kd.R_mono ac.out (fun k_ hk => (⟨hk, hk.2⟩ : _ ∧ k_ ≠ aa))) (fun _ hk => hk.2) (.int .i64 ad)) (fun _ hk => hk.2) (.int .i64 ah)) (fun _ hk => hk.2) (.int .i64 aj)) (fun _ hk => hk.1.2)⟩
               have ag : Aside0 ((((a3.setCell ⟨aa, 0, none⟩ (.int .i64 ad)).setCell ⟨aa, 1, none⟩ (.int .i64 ah)).setCell ⟨aa, 2, none⟩ (.int .i64 aj)).heap[aa]? = some (.cells #[.int .i64 ad, .int .i64 ah, .int .i64 aj] 41 (0, 0))) := ⟨by refine kB ?_; refine blk_put (cs := #[.int .i64 ad, .int .i64 ah, .int .i64 0]) ?_ 2 _ rfl; refine kB ?_; refine blk_put (cs := #[.int .i64 ad, .int .i64 0, .int .i64 0]) ?_ 1 _ rfl; refine kB ?_; refine blk_put (cs := #[.int .i64 0, .int .i64 0, .int .i64 0]) ?_ 0 _ rfl; refine kB ?_; exact ab.out⟩
               have al : Aside0 (Below w.heap.size w (((a3.setCell ⟨aa, 0, none⟩ (.int .i64 ad)).setCell ⟨aa, 1, none⟩ (.int .i64 ah)).setCell ⟨aa, 2, none⟩ (.int .i64 aj))) := ⟨by exact lB HB.out⟩
               (try clear ac)
               (try clear ab)
               (try clear HB)
               generalize (((a3.setCell ⟨aa, 0, none⟩ (.int .i64 ad)).setCell ⟨aa, 1, none⟩ (.int .i64 ah)).setCell ⟨aa, 2, none⟩ (.int .i64 aj)) = cm at af ag al ⊢
               have ac := af
               have ab := ag
               have HB := al
               clear af ag al
               have af := Aside0.mk (Kd.R_drew ac.out)
               have ag := Aside0.mk (blk_drew ab.out)
               have al := Aside0.mk (below_drew1 HB.out)
               clear ac
               clear ab
               clear HB
               have ac := af
               have ab := ag
               have HB := al
               clear af ag al
               refine start_ (n := 24) (S := fun w' => w'.cell? ⟨aa, 0, none⟩ = some (.int .i64 ad) ∧ w'.cell? ⟨aa, 1, none⟩ = some (.int .i64 ah) ∧ w'.cell? ⟨aa, 2, none⟩ = some (.int .i64 aj)) (ds := []) #[false, false, false, false, false, false, false, false, false, false, false, false, false, false, false, false, false, false, false, false, false, false, false, false] (by kernel_rfl) rfl rfl ⟨(blk_cell ab.out 0).trans rfl, (blk_cell ab.out 1).trans rfl, (blk_cell ab.out 2).trans rfl⟩ (fun hHeld => ?_); refine with_tabW pochoirref40_Parse.tab22 pochoirref40_Parse.bits22 (fun HT_ HW_ => ?_)
               generalize cm.drew = cJ at ac ab HB hHeld ⊢
               refine pure_ (i := 0) (N := some 74) (v := ?_) (a' := ?_) #[true, false, false, false, false, false, false, false, false, false, false, false, false, false, false, false, false, false, false, false, false, false, false, false] rfl rfl (any_of HT_.out (by kernel_rfl)) (fun _ _ _ h => h) (Or.inl ⟨by rfl, ?_⟩) ?_ ?_
               rotate_left
               ·intro w'
                go_simp
                with_reducible rfl
               rotate_left
               ·exact pA
               refine pure_ (i := 2) (N := some 76) (v := ?_) (a' := ?_) #[true, false, true, false, false, false, false, false, false, false, false, false, false, false, false, false, false, false, false, false, false, false, false, false] rfl rfl (any_of HT_.out (by kernel_rfl)) (fun _ _ _ h => h) (Or.inl ⟨by rfl, ?_⟩) ?_ ?_
               rotate_left
               ·intro w'
                go_simp
                with_reducible rfl
               rotate_left
               ·exact pA
               refine take_ (i := 1) (N := some 75) (v := ?_) (a' := ?_) #[true, true, true, false, false, false, false, false, false, false, false, false, false, false, false, false, false, false, false, false, false, false, false, false] rfl rfl (take_ofW HT_.out HW_.out (by kernel_rfl)) (fun _ _ _ h => h) (Or.inl ⟨by rfl, ?_⟩) hHeld ?_ ?_
               rotate_left
               ·rintro w' ⟨s0, s1, s2⟩
                go_simp
                with_reducible rfl
               rotate_left
               ·exact pA
               refine pure_ (i := 3) (N := some 77) (v := ?_) (a' := ?_) #[true, true, true, true, false, false, false, false, false, false, false, false, false, false, false, false, false, false, false, false, false, false, false, false] rfl rfl (any_of HT_.out (by kernel_rfl)) (fun _ _ _ h => h) (Or.inl ⟨by rfl, ?_⟩) ?_ ?_
               rotate_left
               ·intro w'
                go_simp
                with_reducible rfl
               rotate_left
               ·exact pA
               refine pure_ (i := 4) (N := some 78) (v := ?_) (a' := ?_) #[true, true, true, true, true, false, false, false, false, false, false, false, false, false, false, false, false, false, false, false, false, false, false, false] rfl rfl (any_of HT_.out (by kernel_rfl)) (fun _ _ _ h => h) (Or.inl ⟨by rfl, ?_⟩) ?_ ?_
               rotate_left
               ·intro w'
                go_simp
                with_reducible rfl
               rotate_left
               ·exact pA
               refine pure_ (i := 5) (N := some 79) (v := undef) (a' := ?_) #[true, true, true, true, true, true, false, false, false, false, false, false, false, false, false, false, false, false, false, false, false, false, false, false] rfl rfl (any_of HT_.out (by kernel_rfl)) (fun _ _ _ h => h) (Or.inr ⟨by rfl, rfl⟩) ?_ ?_
               rotate_left
               ·exact pA
               refine pure_ (i := 6) (N := some 80) (v := undef) (a' := ?_) #[true, true, true, true, true, true, true, false, false, false, false, false, false, false, false, false, false, false, false, false, false, false, false, false] rfl rfl (any_of HT_.out (by kernel_rfl)) (fun _ _ _ h => h) (Or.inr ⟨by rfl, rfl⟩) ?_ ?_
               rotate_left
               ·exact pA
               refine pure_ (i := 7) (N := some 81) (v := undef) (a' := ?_) #[true, true, true, true, true, true, true, true, false, false, false, false, false, false, false, false, false, false, false, false, false, false, false, false] rfl rfl (any_of HT_.out (by kernel_rfl)) (fun _ _ _ h => h) (Or.inr ⟨by rfl, rfl⟩) ?_ ?_
               rotate_left
               ·exact pA
               refine pure_ (i := 8) (N := some 82) (v := undef) (a' := ?_) #[true, true, true, true, true, true, true, true, true, false, false, false, false, false, false, false, false, false, false, false, false, false, false, false] rfl rfl (any_of HT_.out (by kernel_rfl)) (fun _ _ _ h => h) (Or.inr ⟨by rfl, rfl⟩) ?_ ?_
               rotate_left
               ·exact pA
               refine pure_ (i := 9) (N := some 83) (v := ?_) (a' := ?_) #[true, true, true, true, true, true, true, true, true, true, false, false, false, false, false, false, false, false, false, false, false, false, false, false] rfl rfl (any_of HT_.out (by kernel_rfl)) (fun _ _ _ h => h) (Or.inl ⟨by rfl, ?_⟩) ?_ ?_
               rotate_left
               ·intro w'
                go_simp
                with_reducible rfl
               rotate_left
               ·exact pA
               refine pure_ (i := 10) (N := some 84) (v := ?_) (a' := ?_) #[true, true, true, true, true, true, true, true, true, true, true, false, false, false, false, false, false, false, false, false, false, false, false, false] rfl rfl (any_of HT_.out (by kernel_rfl)) (fun _ _ _ h => h) (Or.inl ⟨by rfl, ?_⟩) ?_ ?_
               rotate_left
               ·intro w'
                go_simp
                with_reducible rfl
               rotate_left
               ·exact pA
               refine pure_ (i := 11) (N := some 85) (v := undef) (a' := ?_) #[true, true, true, true, true, true, true, true, true, true, true, true, false, false, false, false, false, false, false, false, false, false, false, false] rfl rfl (any_of HT_.out (by kernel_rfl)) (fun _ _ _ h => h) (Or.inr ⟨by rfl, rfl⟩) ?_ ?_
               rotate_left
               ·exact pA
               refine pure_ (i := 12) (N := some 86) (v := undef) (a' := ?_) #[true, true, true, true, true, true, true, true, true, true, true, true, true, false, false, false, false, false, false, false, false, false, false, false] rfl rfl (any_of HT_.out (by kernel_rfl)) (fun _ _ _ h => h) (Or.inr ⟨by rfl, rfl⟩) ?_ ?_
               rotate_left
               ·exact pA
               refine pure_ (i := 13) (N := some 87) (v := undef) (a' := ?_) #[true, true, true, true, true, true, true, true, true, true, true, true, true, true, false, false, false, false, false, false, false, false, false, false] rfl rfl (any_of HT_.out (by kernel_rfl)) (fun _ _ _ h => h) (Or.inr ⟨by rfl, rfl⟩) ?_ ?_
               rotate_left
               ·exact pA
               refine pure_ (i := 14) (N := some 88) (v := undef) (a' := ?_) #[true, true, true, true, true, true, true, true, true, true, true, true, true, true, true, false, false, false, false, false, false, false, false, false] rfl rfl (any_of HT_.out (by kernel_rfl)) (fun _ _ _ h => h) (Or.inr ⟨by rfl, rfl⟩) ?_ ?_
               rotate_left
               ·exact pA
               refine pure_ (i := 15) (N := some 89) (v := undef) (a' := ?_) #[true, true, true, true, true, true, true, true, true, true, true, true, true, true, true, true, false, false, false, false, false, false, false, false] rfl rfl (any_of HT_.out (by kernel_rfl)) (fun _ _ _ h => h) (Or.inr ⟨by rfl, rfl⟩) ?_ ?_
               rotate_left
               ·exact pA
               refine pure_ (i := 16) (N := some 90) (v := undef) (a' := ?_) #[true, true, true, true, true, true, true, true, true, true, true, true, true, true, true, true, true, false, false, false, false, false, false, false] rfl rfl (any_of HT_.out (by kernel_rfl)) (fun _ _ _ h => h) (Or.inr ⟨by rfl, rfl⟩) ?_ ?_
               rotate_left
               ·exact pA
               refine pure_ (i := 17) (N := some 91) (v := undef) (a' := ?_) #[true, true, true, true, true, true, true, true, true, true, true, true, true, true, true, true, true, true, false, false, false, false, false, false] rfl rfl (any_of HT_.out (by kernel_rfl)) (fun _ _ _ h => h) (Or.inr ⟨by rfl, rfl⟩) ?_ ?_
               rotate_left
               ·exact pA
               refine pure_ (i := 18) (N := some 92) (v := undef) (a' := ?_) #[true, true, true, true, true, true, true, true, true, true, true, true, true, true, true, true, true, true, true, false, false, false, false, false] rfl rfl (any_of HT_.out (by kernel_rfl)) (fun _ _ _ h => h) (Or.inr ⟨by rfl, rfl⟩) ?_ ?_
               rotate_left
               ·exact pA
               refine pure_ (i := 19) (N := some 93) (v := undef) (a' := ?_) #[true, true, true, true, true, true, true, true, true, true, true, true, true, true, true, true, true, true, true, true, false, false, false, false] rfl rfl (any_of HT_.out (by kernel_rfl)) (fun _ _ _ h => h) (Or.inr ⟨by rfl, rfl⟩) ?_ ?_
               rotate_left
               ·exact pA
               refine pure_ (i := 20) (N := some 94) (v := undef) (a' := ?_) #[true, true, true, true, true, true, true, true, true, true, true, true, true, true, true, true, true, true, true, true, true, false, false, false] rfl rfl (any_of HT_.out (by kernel_rfl)) (fun _ _ _ h => h) (Or.inr ⟨by rfl, rfl⟩) ?_ ?_
               rotate_left
               ·exact pA
               refine pure_ (i := 21) (N := some 95) (v := undef) (a' := ?_) #[true, true, true, true, true, true, true, true, true, true, true, true, true, true, true, true, true, true, true, true, true, true, false, false] rfl rfl (any_of HT_.out (by kernel_rfl)) (fun _ _ _ h => h) (Or.inr ⟨by rfl, rfl⟩) ?_ ?_
               rotate_left
               ·exact pA
               refine pure_ (i := 22) (N := some 96) (v := undef) (a' := ?_) #[true, true, true, true, true, true, true, true, true, true, true, true, true, true, true, true, true, true, true, true, true, true, true, false] rfl rfl (any_of HT_.out (by kernel_rfl)) (fun _ _ _ h => h) (Or.inr ⟨by rfl, rfl⟩) ?_ ?_
               rotate_left
               ·exact pA
               refine pure_ (i := 23) (N := some 97) (v := ?_) (a' := ?_) #[true, true, true, true, true, true, true, true, true, true, true, true, true, true, true, true, true, true, true, true, true, true, true, true] rfl rfl (any_of HT_.out (by kernel_rfl)) (fun _ _ _ h => h) (Or.inl ⟨by rfl, ?_⟩) ?_ ?_
               rotate_left
               ·intro w'
                go_simp
                with_reducible rfl
               rotate_left
               ·exact pA
               refine done_ (done_of HT_.out (by kernel_rfl)) ?_
               try go_wp2
               go_ret2
               exact ⟨_, by first | rfl | (simp [errW_none, errW_some] <;> rfl) | (simp [*, errW_none, errW_some] <;> rfl), by first | exact Kd.R_nil _ _ _ _ _ | exact Kd.N_nil _ _ _ _ _ | exact Kd.V_nil _ _ _ _ _ | exact Kd.Q_nil _ _ _ _ _ | exact Kd.S_nil _ _ _ _ _, by exact lB HB.out⟩
              ·rw [if_neg c30] at H
               have bv : decide (a1 ≤ ad) = false := decide_eq_false c30
               clear c30
               by_cases c36 : ah ≥ a1
               ·rw [if_pos c36] at H
                have bw : decide (a1 ≤ ah) = true := decide_eq_true c36
                clear c36
                simp only [Option.some.injEq, Prod.mk.injEq] at H
                obtain ⟨rfl, rfl⟩ := H
                try go_wp2_with (first | ((with_reducible refine gate_callee (f := 34) rfl ?_); refine goesL_ (some 62) rfl rfl Try.func34 (by kernel_rfl) rfl #[.string a0, .int .i64 (wrap64 (18 + (wrap64 (6 * ae))))] rfl (by (try simp only [List.map_toArray, List.map_cons, List.map_nil]); first | done | rfl | (simp only [List.length_drop, List.length_take]; rfl)) ?_; (with_reducible refine (pochoirref40_u16.calls k3 a0 (wrap64 (18 + (wrap64 (6 * ae)))) ad _ A27.out).mono ?_); rintro e w' ⟨rfl, ⟨nd, rfl⟩⟩; refine ⟨_, rfl, ?_⟩; (try (rw [drewN_self wr]; generalize hq_ : World.drewN wr _ = wr; have af : Aside0 (Kd.R k41 41 wr w.heap.size (fun _ => True) u9 ai) := ⟨by rw [← hq_]; exact (by (with_reducible repeat (first | apply Kd.R_alloc | apply Kd.R_drewN | apply Kd.R_drew)); exact ac.out)⟩; have ag : Aside0 (Below w.heap.size w wr) := ⟨by rw [← hq_]; exact (by exact lB HB.out)⟩; clear ac HB hq_; have ac := af; have HB := ag; clear af ag))) | ((with_reducible refine gate_callee (f := 34) rfl ?_); refine goesL_ (some 67) rfl rfl Try.func34 (by kernel_rfl) rfl #[.string a0, .int .i64 (wrap64 (20 + (wrap64 (6 * ae))))] rfl (by (try simp only [List.map_toArray, List.map_cons, List.map_nil]); first | done | rfl | (simp only [List.length_drop, List.length_take]; rfl)) ?_; (with_reducible refine (pochoirref40_u16.calls k3 a0 (wrap64 (20 + (wrap64 (6 * ae)))) ah _ A28.out).mono ?_); rintro e w' ⟨rfl, ⟨nd, rfl⟩⟩; refine ⟨_, rfl, ?_⟩; (try (rw [drewN_self wr]; generalize hq_ : World.drewN wr _ = wr; have af : Aside0 (Kd.R k41 41 wr w.heap.size (fun _ => True) u9 ai) := ⟨by rw [← hq_]; exact (by (with_reducible repeat (first | apply Kd.R_alloc | apply Kd.R_drewN | apply Kd.R_drew)); exact ac.out)⟩; have ag : Aside0 (Below w.heap.size w wr) := ⟨by rw [← hq_]; exact (by exact lB HB.out)⟩; clear ac HB hq_; have ac := af; have HB := ag; clear af ag))) | ((with_reducible refine gate_callee (f := 35) rfl ?_); refine goesL_ (some 72) rfl rfl Try.func35 (by kernel_rfl) rfl #[.string a0, .int .i64 (wrap64 (22 + (wrap64 (6 * ae))))] rfl (by (try simp only [List.map_toArray, List.map_cons, List.map_nil]); first | done | rfl | (simp only [List.length_drop, List.length_take]; rfl)) ?_; (with_reducible refine (pochoirref07_Signed.calls k3 a0 (wrap64 (22 + (wrap64 (6 * ae)))) aj _ A29.out).mono ?_); rintro e cK ⟨rfl, hb⟩; refine ⟨_, rfl, ?_⟩; have af := Aside0.mk (Kd.R_below (by (with_reducible repeat (first | apply Kd.R_alloc | apply Kd.R_drewN | apply Kd.R_drew)); exact ac.out) hb); have ag := Aside0.mk (below_step (by exact lB HB.out) hb); clear ac; clear HB; have ac := af; have HB := ag; clear af ag; (try clear hb); (try clear a2); (try clear hk); (try clear hi)) | ((with_reducible refine gate_dst (N := 11) rfl ?_); refine box_event ?hg (N := 11) ?hd (cs := #[.int .i64 0, .int .i64 0, .int .i64 0]) (t := 41) ?hr ?_; (case hd => rfl); (case hg => rfl); (case hr => first | (go_simp; done) | (go_simp; rfl)); intro aa hg a4 hbox hb; have af := Aside0.mk (Kd.R_below (Kd.R_elderB (by (with_reducible repeat (first | apply Kd.R_alloc | apply Kd.R_drewN | apply Kd.R_drew)); exact ac.out) aa (Nat.le_of_eq hg.symm)) hb); have ag := Aside0.mk (below_step (by exact lB HB.out) hb); have al := Aside0.mk (hbox); have aC := Aside0.mk ((by rw [hg]; exact (below_size (by exact lB HB.out)) : w.heap.size ≤ aa)); have aD := Aside0.mk ((by rw [hg]; exact (below_size (by exact lB HB.out)) : w.heap.size ≤ aa)); clear ac; clear HB; have ac := af; have HB := ag; have ab := al; have aY := aC; have ao := aD; clear af ag al aC aD; clear hb hbox hg; have bL : a4.cell? ⟨aa, 0, none⟩ = some (.int .i64 0) := (blk_cell ab.out 0).trans rfl; have bM : a4.cell? ⟨aa, 1, none⟩ = some (.int .i64 0) := (blk_cell ab.out 1).trans rfl; have bN : a4.cell? ⟨aa, 2, none⟩ = some (.int .i64 0) := (blk_cell ab.out 2).trans rfl; have bO := blk_frozen ab.out 0; have bP := blk_frozen ab.out 1; have bQ := blk_frozen ab.out 2))
                have af : Aside0 (Kd.R k41 41 (((a4.setCell ⟨aa, 0, none⟩ (.int .i64 ad)).setCell ⟨aa, 1, none⟩ (.int .i64 ah)).setCell ⟨aa, 2, none⟩ (.int .i64 aj)) w.heap.size (fun k_ => k_ ≠ aa) u9 ai) := ⟨by (with_reducible repeat (first | apply Kd.R_alloc | apply Kd.R_drewN | apply Kd.R_drew)); exact Kd.R_mono (Kd.R_far (p := ⟨aa, 2, none⟩) (Kd.R_far (p := ⟨aa, 1, none⟩) (Kd.R_far (p := ⟨aa, 0, none⟩) (Kd.R_mono ac.out (fun k_ hk => (⟨hk, hk.2⟩ : _ ∧ k_ ≠ aa))) (fun _ hk => hk.2) (.int .i64 ad)) (fun _ hk => hk.2) (.int .i64 ah)) (fun _ hk => hk.2) (.int .i64 aj)) (fun _ hk => hk.1.2)⟩
                have ag : Aside0 ((((a4.setCell ⟨aa, 0, none⟩ (.int .i64 ad)).setCell ⟨aa, 1, none⟩ (.int .i64 ah)).setCell ⟨aa, 2, none⟩ (.int .i64 aj)).heap[aa]? = some (.cells #[.int .i64 ad, .int .i64 ah, .int .i64 aj] 41 (0, 0))) := ⟨by refine kB ?_; refine blk_put (cs := #[.int .i64 ad, .int .i64 ah, .int .i64 0]) ?_ 2 _ rfl; refine kB ?_; refine blk_put (cs := #[.int .i64 ad, .int .i64 0, .int .i64 0]) ?_ 1 _ rfl; refine kB ?_; refine blk_put (cs := #[.int .i64 0, .int .i64 0, .int .i64 0]) ?_ 0 _ rfl; refine kB ?_; exact ab.out⟩
                have al : Aside0 (Below w.heap.size w (((a4.setCell ⟨aa, 0, none⟩ (.int .i64 ad)).setCell ⟨aa, 1, none⟩ (.int .i64 ah)).setCell ⟨aa, 2, none⟩ (.int .i64 aj))) := ⟨by exact lB HB.out⟩
                (try clear ac)
                (try clear ab)
                (try clear HB)
                generalize (((a4.setCell ⟨aa, 0, none⟩ (.int .i64 ad)).setCell ⟨aa, 1, none⟩ (.int .i64 ah)).setCell ⟨aa, 2, none⟩ (.int .i64 aj)) = cn at af ag al ⊢
                have ac := af
                have ab := ag
                have HB := al
                clear af ag al
                have af := Aside0.mk (Kd.R_drew ac.out)
                have ag := Aside0.mk (blk_drew ab.out)
                have al := Aside0.mk (below_drew1 HB.out)
                clear ac
                clear ab
                clear HB
                have ac := af
                have ab := ag
                have HB := al
                clear af ag al
                refine start_ (n := 24) (S := fun w' => w'.cell? ⟨aa, 0, none⟩ = some (.int .i64 ad) ∧ w'.cell? ⟨aa, 1, none⟩ = some (.int .i64 ah) ∧ w'.cell? ⟨aa, 2, none⟩ = some (.int .i64 aj)) (ds := []) #[false, false, false, false, false, false, false, false, false, false, false, false, false, false, false, false, false, false, false, false, false, false, false, false] (by kernel_rfl) rfl rfl ⟨(blk_cell ab.out 0).trans rfl, (blk_cell ab.out 1).trans rfl, (blk_cell ab.out 2).trans rfl⟩ (fun hHeld => ?_); refine with_tabW pochoirref40_Parse.tab22 pochoirref40_Parse.bits22 (fun HT_ HW_ => ?_)
                generalize cn.drew = cL at ac ab HB hHeld ⊢
                refine pure_ (i := 0) (N := some 74) (v := ?_) (a' := ?_) #[true, false, false, false, false, false, false, false, false, false, false, false, false, false, false, false, false, false, false, false, false, false, false, false] rfl rfl (any_of HT_.out (by kernel_rfl)) (fun _ _ _ h => h) (Or.inl ⟨by rfl, ?_⟩) ?_ ?_
                rotate_left
                ·intro w'
                 go_simp
                 with_reducible rfl
                rotate_left
                ·exact pA
                refine pure_ (i := 2) (N := some 76) (v := ?_) (a' := ?_) #[true, false, true, false, false, false, false, false, false, false, false, false, false, false, false, false, false, false, false, false, false, false, false, false] rfl rfl (any_of HT_.out (by kernel_rfl)) (fun _ _ _ h => h) (Or.inl ⟨by rfl, ?_⟩) ?_ ?_
                rotate_left
                ·intro w'
                 go_simp
                 with_reducible rfl
                rotate_left
                ·exact pA
                refine take_ (i := 1) (N := some 75) (v := ?_) (a' := ?_) #[true, true, true, false, false, false, false, false, false, false, false, false, false, false, false, false, false, false, false, false, false, false, false, false] rfl rfl (take_ofW HT_.out HW_.out (by kernel_rfl)) (fun _ _ _ h => h) (Or.inl ⟨by rfl, ?_⟩) hHeld ?_ ?_
                rotate_left
                ·rintro w' ⟨s0, s1, s2⟩
                 go_simp
                 with_reducible rfl
                rotate_left
                ·exact pA
                refine pure_ (i := 3) (N := some 77) (v := ?_) (a' := ?_) #[true, true, true, true, false, false, false, false, false, false, false, false, false, false, false, false, false, false, false, false, false, false, false, false] rfl rfl (any_of HT_.out (by kernel_rfl)) (fun _ _ _ h => h) (Or.inl ⟨by rfl, ?_⟩) ?_ ?_
                rotate_left
                ·intro w'
                 go_simp
                 with_reducible rfl
                rotate_left
                ·exact pA
                refine pure_ (i := 4) (N := some 78) (v := ?_) (a' := ?_) #[true, true, true, true, true, false, false, false, false, false, false, false, false, false, false, false, false, false, false, false, false, false, false, false] rfl rfl (any_of HT_.out (by kernel_rfl)) (fun _ _ _ h => h) (Or.inl ⟨by rfl, ?_⟩) ?_ ?_
                rotate_left
                ·intro w'
                 go_simp
                 with_reducible rfl
                rotate_left
                ·exact pA
                refine pure_ (i := 5) (N := some 79) (v := ?_) (a' := ?_) #[true, true, true, true, true, true, false, false, false, false, false, false, false, false, false, false, false, false, false, false, false, false, false, false] rfl rfl (any_of HT_.out (by kernel_rfl)) (fun _ _ _ h => h) (Or.inl ⟨by rfl, ?_⟩) ?_ ?_
                rotate_left
                ·intro w'
                 go_simp
                 with_reducible rfl
                rotate_left
                ·exact pA
                refine pure_ (i := 7) (N := some 81) (v := ?_) (a' := ?_) #[true, true, true, true, true, true, false, true, false, false, false, false, false, false, false, false, false, false, false, false, false, false, false, false] rfl rfl (any_of HT_.out (by kernel_rfl)) (fun _ _ _ h => h) (Or.inl ⟨by rfl, ?_⟩) ?_ ?_
                rotate_left
                ·intro w'
                 go_simp
                 with_reducible rfl
                rotate_left
                ·exact pA
                refine take_ (i := 6) (N := some 80) (v := ?_) (a' := ?_) #[true, true, true, true, true, true, true, true, false, false, false, false, false, false, false, false, false, false, false, false, false, false, false, false] rfl rfl (take_ofW HT_.out HW_.out (by kernel_rfl)) (fun _ _ _ h => h) (Or.inl ⟨by rfl, ?_⟩) hHeld ?_ ?_
                rotate_left
                ·rintro w' ⟨s0, s1, s2⟩
                 go_simp
                 with_reducible rfl
                rotate_left
                ·exact pA
                refine pure_ (i := 8) (N := some 82) (v := ?_) (a' := ?_) #[true, true, true, true, true, true, true, true, true, false, false, false, false, false, false, false, false, false, false, false, false, false, false, false] rfl rfl (any_of HT_.out (by kernel_rfl)) (fun _ _ _ h => h) (Or.inl ⟨by rfl, ?_⟩) ?_ ?_
                rotate_left
                ·intro w'
                 go_simp
                 with_reducible rfl
                rotate_left
                ·exact pA
                refine pure_ (i := 9) (N := some 83) (v := ?_) (a' := ?_) #[true, true, true, true, true, true, true, true, true, true, false, false, false, false, false, false, false, false, false, false, false, false, false, false] rfl rfl (any_of HT_.out (by kernel_rfl)) (fun _ _ _ h => h) (Or.inl ⟨by rfl, ?_⟩) ?_ ?_
                rotate_left
                ·intro w'
                 go_simp
                 with_reducible rfl
                rotate_left
                ·exact pA
                refine pure_ (i := 10) (N := some 84) (v := ?_) (a' := ?_) #[true, true, true, true, true, true, true, true, true, true, true, false, false, false, false, false, false, false, false, false, false, false, false, false] rfl rfl (any_of HT_.out (by kernel_rfl)) (fun _ _ _ h => h) (Or.inl ⟨by rfl, ?_⟩) ?_ ?_
                rotate_left
                ·intro w'
                 go_simp
                 with_reducible rfl
                rotate_left
                ·exact pA
                refine pure_ (i := 11) (N := some 85) (v := undef) (a' := ?_) #[true, true, true, true, true, true, true, true, true, true, true, true, false, false, false, false, false, false, false, false, false, false, false, false] rfl rfl (any_of HT_.out (by kernel_rfl)) (fun _ _ _ h => h) (Or.inr ⟨by rfl, rfl⟩) ?_ ?_
                rotate_left
                ·exact pA
                refine pure_ (i := 12) (N := some 86) (v := undef) (a' := ?_) #[true, true, true, true, true, true, true, true, true, true, true, true, true, false, false, false, false, false, false, false, false, false, false, false] rfl rfl (any_of HT_.out (by kernel_rfl)) (fun _ _ _ h => h) (Or.inr ⟨by rfl, rfl⟩) ?_ ?_
                rotate_left
                ·exact pA
                refine pure_ (i := 13) (N := some 87) (v := undef) (a' := ?_) #[true, true, true, true, true, true, true, true, true, true, true, true, true, true, false, false, false, false, false, false, false, false, false, false] rfl rfl (any_of HT_.out (by kernel_rfl)) (fun _ _ _ h => h) (Or.inr ⟨by rfl, rfl⟩) ?_ ?_
                rotate_left
                ·exact pA
                refine pure_ (i := 14) (N := some 88) (v := undef) (a' := ?_) #[true, true, true, true, true, true, true, true, true, true, true, true, true, true, true, false, false, false, false, false, false, false, false, false] rfl rfl (any_of HT_.out (by kernel_rfl)) (fun _ _ _ h => h) (Or.inr ⟨by rfl, rfl⟩) ?_ ?_
                rotate_left
                ·exact pA
                refine pure_ (i := 15) (N := some 89) (v := undef) (a' := ?_) #[true, true, true, true, true, true, true, true, true, true, true, true, true, true, true, true, false, false, false, false, false, false, false, false] rfl rfl (any_of HT_.out (by kernel_rfl)) (fun _ _ _ h => h) (Or.inr ⟨by rfl, rfl⟩) ?_ ?_
                rotate_left
                ·exact pA
                refine pure_ (i := 16) (N := some 90) (v := undef) (a' := ?_) #[true, true, true, true, true, true, true, true, true, true, true, true, true, true, true, true, true, false, false, false, false, false, false, false] rfl rfl (any_of HT_.out (by kernel_rfl)) (fun _ _ _ h => h) (Or.inr ⟨by rfl, rfl⟩) ?_ ?_
                rotate_left
                ·exact pA
                refine pure_ (i := 17) (N := some 91) (v := undef) (a' := ?_) #[true, true, true, true, true, true, true, true, true, true, true, true, true, true, true, true, true, true, false, false, false, false, false, false] rfl rfl (any_of HT_.out (by kernel_rfl)) (fun _ _ _ h => h) (Or.inr ⟨by rfl, rfl⟩) ?_ ?_
                rotate_left
                ·exact pA
                refine pure_ (i := 18) (N := some 92) (v := undef) (a' := ?_) #[true, true, true, true, true, true, true, true, true, true, true, true, true, true, true, true, true, true, true, false, false, false, false, false] rfl rfl (any_of HT_.out (by kernel_rfl)) (fun _ _ _ h => h) (Or.inr ⟨by rfl, rfl⟩) ?_ ?_
                rotate_left
                ·exact pA
                refine pure_ (i := 19) (N := some 93) (v := undef) (a' := ?_) #[true, true, true, true, true, true, true, true, true, true, true, true, true, true, true, true, true, true, true, true, false, false, false, false] rfl rfl (any_of HT_.out (by kernel_rfl)) (fun _ _ _ h => h) (Or.inr ⟨by rfl, rfl⟩) ?_ ?_
                rotate_left
                ·exact pA
                refine pure_ (i := 20) (N := some 94) (v := undef) (a' := ?_) #[true, true, true, true, true, true, true, true, true, true, true, true, true, true, true, true, true, true, true, true, true, false, false, false] rfl rfl (any_of HT_.out (by kernel_rfl)) (fun _ _ _ h => h) (Or.inr ⟨by rfl, rfl⟩) ?_ ?_
                rotate_left
                ·exact pA
                refine pure_ (i := 21) (N := some 95) (v := undef) (a' := ?_) #[true, true, true, true, true, true, true, true, true, true, true, true, true, true, true, true, true, true, true, true, true, true, false, false] rfl rfl (any_of HT_.out (by kernel_rfl)) (fun _ _ _ h => h) (Or.inr ⟨by rfl, rfl⟩) ?_ ?_
                rotate_left
                ·exact pA
                refine pure_ (i := 22) (N := some 96) (v := undef) (a' := ?_) #[true, true, true, true, true, true, true, true, true, true, true, true, true, true, true, true, true, true, true, true, true, true, true, false] rfl rfl (any_of HT_.out (by kernel_rfl)) (fun _ _ _ h => h) (Or.inr ⟨by rfl, rfl⟩) ?_ ?_
                rotate_left
                ·exact pA
                refine pure_ (i := 23) (N := some 97) (v := ?_) (a' := ?_) #[true, true, true, true, true, true, true, true, true, true, true, true, true, true, true, true, true, true, true, true, true, true, true, true] rfl rfl (any_of HT_.out (by kernel_rfl)) (fun _ _ _ h => h) (Or.inl ⟨by rfl, ?_⟩) ?_ ?_
                rotate_left
                ·intro w'
                 go_simp
                 with_reducible rfl
                rotate_left
                ·exact pA
                refine done_ (done_of HT_.out (by kernel_rfl)) ?_
                try go_wp2
                go_ret2
                exact ⟨_, by first | rfl | (simp [errW_none, errW_some] <;> rfl) | (simp [*, errW_none, errW_some] <;> rfl), by first | exact Kd.R_nil _ _ _ _ _ | exact Kd.N_nil _ _ _ _ _ | exact Kd.V_nil _ _ _ _ _ | exact Kd.Q_nil _ _ _ _ _ | exact Kd.S_nil _ _ _ _ _, by exact lB HB.out⟩
               ·rw [if_neg c36] at H
                have bw : decide (a1 ≤ ah) = false := decide_eq_false c36
                clear c36
                by_cases c42 : ae > 0
                ·rw [if_pos c42] at H
                 have bx : decide (0 < ae) = true := decide_eq_true c42
                 clear c42
                 obtain ⟨am, aw⟩ : ∃ j_ : Int, (wrap64 (ae - 1)) = j_ := ⟨_, rfl⟩
                 replace H : (if 0 ≤ (am) then (if (am) < (ai.length : Int) then ((pochoirref40_after.f ad ah aj ((rd_T41 ai (am)).f0) ((rd_T41 ai (am)).f1) ((rd_T41 ai (am)).f2)).bind fun av => (if av = true then (if ai.length < 5864062014805 then (pochoirref40_Parse.l1 k3 a0 a1 ak (ai ++ [(⟨ad, ah, aj⟩ : S41)]) (wrap64 (ae + 1))) else (none)) else (some (([] : List (S41)), 4)))) else (none)) else (none)) = some (r1, r2) := by first | (rw [aw] at H; exact H) | (simp only [aw] at H ⊢; exact H)
                 (try rw [aw] at A27)
                 (try rw [aw] at A28)
                 (try rw [aw] at A29)
                 have hji43w : (IntKind.i64.wrap (ae - 1)) = am := (i64_w _).trans aw
                 by_cases c44 : 0 ≤ (am)
                 ·rw [if_pos c44] at H
                  have cr : decide (0 ≤ (am)) = true := decide_eq_true c44
                  clear c44
                  by_cases c45 : (am) < (ai.length : Int)
                  ·rw [if_pos c45] at H
                   have ct : decide ((am) < (ai.length : Int)) = true := decide_eq_true c45
                   clear c45
                   replace H := Option.bind_eq_some_iff.mp H
                   obtain ⟨av, A460, H⟩ := H
                   replace H : (if av = true then (if ai.length < 5864062014805 then (pochoirref40_Parse.l1 k3 a0 a1 ak (ai ++ [(⟨ad, ah, aj⟩ : S41)]) (wrap64 (ae + 1))) else (none)) else (some (([] : List (S41)), 4))) = some (r1, r2) := H
                   have A46 := Aside0.mk A460
                   clear A460
                   by_cases c47 : av = true
                   ·subst c47
                    have H1 : (if ai.length < 5864062014805 then (pochoirref40_Parse.l1 k3 a0 a1 ak (ai ++ [(⟨ad, ah, aj⟩ : S41)]) (wrap64 (ae + 1))) else (none)) = some (r1, r2) := by rw [if_pos rfl] at H; exact H
                    clear H
                    have H := H1
                    clear H1
                    by_cases c48 : ai.length < 5864062014805
                    ·rw [if_pos c48] at H
                     have LMc48 := Aside0.mk c48
                     clear c48
                     obtain ⟨bm, aV⟩ : ∃ y_ : List (S41), y_ = (ai ++ [(⟨ad, ah, aj⟩ : S41)]) := ⟨_, rfl⟩
                     replace H : (pochoirref40_Parse.l1 k3 a0 a1 ak bm (wrap64 (ae + 1))) = some (r1, r2) := by first | (rw [aV]; with_reducible exact H) | (have H2_ := (Option.bind_some _ _).symm.trans H; rw [aV]; with_reducible exact H2_) | (have H2_ := (Option.bind_some _ _).symm.trans H; with_reducible exact H2_) | with_reducible exact H | (rw [aV]; exact H) | exact H
                     have Ny281 := Aside0.mk aV
                     clear aV
                     have H' := Aside0.mk H
                     clear H
                     try go_wp2_with (first | ((with_reducible refine gate_callee (f := 34) rfl ?_); refine goesL_ (some 62) rfl rfl Try.func34 (by kernel_rfl) rfl #[.string a0, .int .i64 (wrap64 (18 + (wrap64 (6 * ae))))] rfl (by (try simp only [List.map_toArray, List.map_cons, List.map_nil]); first | done | rfl | (simp only [List.length_drop, List.length_take]; rfl)) ?_; (with_reducible refine (pochoirref40_u16.calls k3 a0 (wrap64 (18 + (wrap64 (6 * ae)))) ad _ A27.out).mono ?_); rintro e w' ⟨rfl, ⟨nd, rfl⟩⟩; refine ⟨_, rfl, ?_⟩; (try (rw [drewN_self wr]; generalize hq_ : World.drewN wr _ = wr; have af : Aside0 (Kd.R k41 41 wr w.heap.size (fun _ => True) u9 ai) := ⟨by rw [← hq_]; exact (by (with_reducible repeat (first | apply Kd.R_alloc | apply Kd.R_drewN | apply Kd.R_drew)); exact ac.out)⟩; have ag : Aside0 (Below w.heap.size w wr) := ⟨by rw [← hq_]; exact (by exact lB HB.out)⟩; clear ac HB hq_; have ac := af; have HB := ag; clear af ag))) | ((with_reducible refine gate_callee (f := 34) rfl ?_); refine goesL_ (some 67) rfl rfl Try.func34 (by kernel_rfl) rfl #[.string a0, .int .i64 (wrap64 (20 + (wrap64 (6 * ae))))] rfl (by (try simp only [List.map_toArray, List.map_cons, List.map_nil]); first | done | rfl | (simp only [List.length_drop, List.length_take]; rfl)) ?_; (with_reducible refine (pochoirref40_u16.calls k3 a0 (wrap64 (20 + (wrap64 (6 * ae)))) ah _ A28.out).mono ?_); rintro e w' ⟨rfl, ⟨nd, rfl⟩⟩; refine ⟨_, rfl, ?_⟩; (try (rw [drewN_self wr]; generalize hq_ : World.drewN wr _ = wr; have af : Aside0 (Kd.R k41 41 wr w.heap.size (fun _ => True) u9 ai) := ⟨by rw [← hq_]; exact (by (with_reducible repeat (first | apply Kd.R_alloc | apply Kd.R_drewN | apply Kd.R_drew)); exact ac.out)⟩; have ag : Aside0 (Below w.heap.size w wr) := ⟨by rw [← hq_]; exact (by exact lB HB.out)⟩; clear ac HB hq_; have ac := af; have HB := ag; clear af ag))) | ((with_reducible refine gate_callee (f := 35) rfl ?_); refine goesL_ (some 72) rfl rfl Try.func35 (by kernel_rfl) rfl #[.string a0, .int .i64 (wrap64 (22 + (wrap64 (6 * ae))))] rfl (by (try simp only [List.map_toArray, List.map_cons, List.map_nil]); first | done | rfl | (simp only [List.length_drop, List.length_take]; rfl)) ?_; (with_reducible refine (pochoirref07_Signed.calls k3 a0 (wrap64 (22 + (wrap64 (6 * ae)))) aj _ A29.out).mono ?_); rintro e cM ⟨rfl, hb⟩; refine ⟨_, rfl, ?_⟩; have af := Aside0.mk (Kd.R_below (by (with_reducible repeat (first | apply Kd.R_alloc | apply Kd.R_drewN | apply Kd.R_drew)); exact ac.out) hb); have ag := Aside0.mk (below_step (by exact lB HB.out) hb); clear ac; clear HB; have ac := af; have HB := ag; clear af ag; (try clear hb); (try clear a2); (try clear hk); (try clear hi)) | ((with_reducible refine gate_dst (N := 11) rfl ?_); refine box_event ?hg (N := 11) ?hd (cs := #[.int .i64 0, .int .i64 0, .int .i64 0]) (t := 41) ?hr ?_; (case hd => rfl); (case hg => rfl); (case hr => first | (go_simp; done) | (go_simp; rfl)); intro aa hg a5 hbox hb; have af := Aside0.mk (Kd.R_below (Kd.R_elderB (by (with_reducible repeat (first | apply Kd.R_alloc | apply Kd.R_drewN | apply Kd.R_drew)); exact ac.out) aa (Nat.le_of_eq hg.symm)) hb); have ag := Aside0.mk (below_step (by exact lB HB.out) hb); have al := Aside0.mk (hbox); have aC := Aside0.mk ((by rw [hg]; exact (below_size (by exact lB HB.out)) : w.heap.size ≤ aa)); have aD := Aside0.mk ((by rw [hg]; exact (below_size (by exact lB HB.out)) : w.heap.size ≤ aa)); clear ac; clear HB; have ac := af; have HB := ag; have ab := al; have aY := aC; have ao := aD; clear af ag al aC aD; clear hb hbox hg; have bR : a5.cell? ⟨aa, 0, none⟩ = some (.int .i64 0) := (blk_cell ab.out 0).trans rfl; have bS : a5.cell? ⟨aa, 1, none⟩ = some (.int .i64 0) := (blk_cell ab.out 1).trans rfl; have bT : a5.cell? ⟨aa, 2, none⟩ = some (.int .i64 0) := (blk_cell ab.out 2).trans rfl; have bU := blk_frozen ab.out 0; have bV := blk_frozen ab.out 1; have bW := blk_frozen ab.out 2))
                     have af : Aside0 (Kd.R k41 41 (((a5.setCell ⟨aa, 0, none⟩ (.int .i64 ad)).setCell ⟨aa, 1, none⟩ (.int .i64 ah)).setCell ⟨aa, 2, none⟩ (.int .i64 aj)) w.heap.size (fun k_ => k_ ≠ aa) u9 ai) := ⟨by (with_reducible repeat (first | apply Kd.R_alloc | apply Kd.R_drewN | apply Kd.R_drew)); exact Kd.R_mono (Kd.R_far (p := ⟨aa, 2, none⟩) (Kd.R_far (p := ⟨aa, 1, none⟩) (Kd.R_far (p := ⟨aa, 0, none⟩) (Kd.R_mono ac.out (fun k_ hk => (⟨hk, hk.2⟩ : _ ∧ k_ ≠ aa))) (fun _ hk => hk.2) (.int .i64 ad)) (fun _ hk => hk.2) (.int .i64 ah)) (fun _ hk => hk.2) (.int .i64 aj)) (fun _ hk => hk.1.2)⟩
                     have ag : Aside0 ((((a5.setCell ⟨aa, 0, none⟩ (.int .i64 ad)).setCell ⟨aa, 1, none⟩ (.int .i64 ah)).setCell ⟨aa, 2, none⟩ (.int .i64 aj)).heap[aa]? = some (.cells #[.int .i64 ad, .int .i64 ah, .int .i64 aj] 41 (0, 0))) := ⟨by refine kB ?_; refine blk_put (cs := #[.int .i64 ad, .int .i64 ah, .int .i64 0]) ?_ 2 _ rfl; refine kB ?_; refine blk_put (cs := #[.int .i64 ad, .int .i64 0, .int .i64 0]) ?_ 1 _ rfl; refine kB ?_; refine blk_put (cs := #[.int .i64 0, .int .i64 0, .int .i64 0]) ?_ 0 _ rfl; refine kB ?_; exact ab.out⟩
                     have al : Aside0 (Below w.heap.size w (((a5.setCell ⟨aa, 0, none⟩ (.int .i64 ad)).setCell ⟨aa, 1, none⟩ (.int .i64 ah)).setCell ⟨aa, 2, none⟩ (.int .i64 aj))) := ⟨by exact lB HB.out⟩
                     (try clear ac)
                     (try clear ab)
                     (try clear HB)
                     generalize (((a5.setCell ⟨aa, 0, none⟩ (.int .i64 ad)).setCell ⟨aa, 1, none⟩ (.int .i64 ah)).setCell ⟨aa, 2, none⟩ (.int .i64 aj)) = co at af ag al ⊢
                     have ac := af
                     have ab := ag
                     have HB := al
                     clear af ag al
                     have af := Aside0.mk (Kd.R_drew ac.out)
                     have ag := Aside0.mk (blk_drew ab.out)
                     have al := Aside0.mk (below_drew1 HB.out)
                     clear ac
                     clear ab
                     clear HB
                     have ac := af
                     have ab := ag
                     have HB := al
                     clear af ag al
                     obtain ⟨cz, bE, eo54⟩ := Kd.R_slice ac.out
                     (first | subst eo54 | (injection eo54 with f1_ f2_ f3_; have f4_ := f1_.symm; have f5_ := f3_.symm; clear f1_ f2_ f3_; subst f4_; subst f5_))
                     have p279 : 0 ≤ ((am) : Int) := of_decide_eq_true (by first | (with_reducible assumption) | assumption)
                     have q279 : (am) < (ai.length : Int) := of_decide_eq_true (by first | (with_reducible assumption) | assumption)
                     obtain ⟨ad279, e279, aG, aH, aI⟩ := at_T41 (Kd.R_reads' ac.out).2.2 (am) p279 q279
                     cases e279
                     replace p279 := eq_true p279
                     replace q279 := eq_true q279
                     refine start_ (n := 24) (S := fun w' => w'.cell? ⟨aa, 0, none⟩ = some (.int .i64 ad) ∧ w'.cell? ⟨aa, 1, none⟩ = some (.int .i64 ah) ∧ w'.cell? ⟨aa, 2, none⟩ = some (.int .i64 aj) ∧ w'.cell? (ad279.add (((am)).toNat * 3)) = some (.int .i64 ((rd_T41 ai (am)).f0)) ∧ w'.cell? ⟨(ad279.add (((am)).toNat * 3)).block, (ad279.add (((am)).toNat * 3)).off + 1, none⟩ = some (.int .i64 ((rd_T41 ai (am)).f1)) ∧ w'.cell? ⟨(ad279.add (((am)).toNat * 3)).block, (ad279.add (((am)).toNat * 3)).off + 2, none⟩ = some (.int .i64 ((rd_T41 ai (am)).f2))) (ds := []) #[false, false, false, false, false, false, false, false, false, false, false, false, false, false, false, false, false, false, false, false, false, false, false, false] (by kernel_rfl) rfl rfl ⟨(blk_cell ab.out 0).trans rfl, (blk_cell ab.out 1).trans rfl, (blk_cell ab.out 2).trans rfl, aG, aH, aI⟩ (fun hHeld => ?_); refine with_tabW pochoirref40_Parse.tab22 pochoirref40_Parse.bits22 (fun HT_ HW_ => ?_)
                     generalize co.drew = cN at ac ab HB aG aH aI hHeld ⊢
                     refine pure_ (i := 0) (N := some 74) (v := ?_) (a' := ?_) #[true, false, false, false, false, false, false, false, false, false, false, false, false, false, false, false, false, false, false, false, false, false, false, false] rfl rfl (any_of HT_.out (by kernel_rfl)) (fun _ _ _ h => h) (Or.inl ⟨by rfl, ?_⟩) ?_ ?_
                     rotate_left
                     ·intro w'
                      go_simp
                      with_reducible rfl
                     rotate_left
                     ·exact pA
                     refine pure_ (i := 2) (N := some 76) (v := ?_) (a' := ?_) #[true, false, true, false, false, false, false, false, false, false, false, false, false, false, false, false, false, false, false, false, false, false, false, false] rfl rfl (any_of HT_.out (by kernel_rfl)) (fun _ _ _ h => h) (Or.inl ⟨by rfl, ?_⟩) ?_ ?_
                     rotate_left
                     ·intro w'
                      go_simp
                      with_reducible rfl
                     rotate_left
                     ·exact pA
                     refine take_ (i := 1) (N := some 75) (v := ?_) (a' := ?_) #[true, true, true, false, false, false, false, false, false, false, false, false, false, false, false, false, false, false, false, false, false, false, false, false] rfl rfl (take_ofW HT_.out HW_.out (by kernel_rfl)) (fun _ _ _ h => h) (Or.inl ⟨by rfl, ?_⟩) hHeld ?_ ?_
                     rotate_left
                     ·rintro w' ⟨s0, s1, s2, s3, s4, s5⟩
                      go_simp
                      with_reducible rfl
                     rotate_left
                     ·exact pA
                     refine pure_ (i := 3) (N := some 77) (v := ?_) (a' := ?_) #[true, true, true, true, false, false, false, false, false, false, false, false, false, false, false, false, false, false, false, false, false, false, false, false] rfl rfl (any_of HT_.out (by kernel_rfl)) (fun _ _ _ h => h) (Or.inl ⟨by rfl, ?_⟩) ?_ ?_
                     rotate_left
                     ·intro w'
                      go_simp
                      with_reducible rfl
                     rotate_left
                     ·exact pA
                     refine pure_ (i := 4) (N := some 78) (v := ?_) (a' := ?_) #[true, true, true, true, true, false, false, false, false, false, false, false, false, false, false, false, false, false, false, false, false, false, false, false] rfl rfl (any_of HT_.out (by kernel_rfl)) (fun _ _ _ h => h) (Or.inl ⟨by rfl, ?_⟩) ?_ ?_
                     rotate_left
                     ·intro w'
                      go_simp
                      with_reducible rfl
                     rotate_left
                     ·exact pA
                     refine pure_ (i := 5) (N := some 79) (v := ?_) (a' := ?_) #[true, true, true, true, true, true, false, false, false, false, false, false, false, false, false, false, false, false, false, false, false, false, false, false] rfl rfl (any_of HT_.out (by kernel_rfl)) (fun _ _ _ h => h) (Or.inl ⟨by rfl, ?_⟩) ?_ ?_
                     rotate_left
                     ·intro w'
                      go_simp
                      with_reducible rfl
                     rotate_left
                     ·exact pA
                     refine pure_ (i := 7) (N := some 81) (v := ?_) (a' := ?_) #[true, true, true, true, true, true, false, true, false, false, false, false, false, false, false, false, false, false, false, false, false, false, false, false] rfl rfl (any_of HT_.out (by kernel_rfl)) (fun _ _ _ h => h) (Or.inl ⟨by rfl, ?_⟩) ?_ ?_
                     rotate_left
                     ·intro w'
                      go_simp
                      with_reducible rfl
                     rotate_left
                     ·exact pA
                     refine take_ (i := 6) (N := some 80) (v := ?_) (a' := ?_) #[true, true, true, true, true, true, true, true, false, false, false, false, false, false, false, false, false, false, false, false, false, false, false, false] rfl rfl (take_ofW HT_.out HW_.out (by kernel_rfl)) (fun _ _ _ h => h) (Or.inl ⟨by rfl, ?_⟩) hHeld ?_ ?_
                     rotate_left
                     ·rintro w' ⟨s0, s1, s2, s3, s4, s5⟩
                      go_simp
                      with_reducible rfl
                     rotate_left
                     ·exact pA
                     refine pure_ (i := 8) (N := some 82) (v := ?_) (a' := ?_) #[true, true, true, true, true, true, true, true, true, false, false, false, false, false, false, false, false, false, false, false, false, false, false, false] rfl rfl (any_of HT_.out (by kernel_rfl)) (fun _ _ _ h => h) (Or.inl ⟨by rfl, ?_⟩) ?_ ?_
                     rotate_left
                     ·intro w'
                      go_simp
                      with_reducible rfl
                     rotate_left
                     ·exact pA
                     refine pure_ (i := 9) (N := some 83) (v := ?_) (a' := ?_) #[true, true, true, true, true, true, true, true, true, true, false, false, false, false, false, false, false, false, false, false, false, false, false, false] rfl rfl (any_of HT_.out (by kernel_rfl)) (fun _ _ _ h => h) (Or.inl ⟨by rfl, ?_⟩) ?_ ?_
                     rotate_left
                     ·intro w'
                      go_simp
                      with_reducible rfl
                     rotate_left
                     ·exact pA
                     refine pure_ (i := 10) (N := some 84) (v := ?_) (a' := ?_) #[true, true, true, true, true, true, true, true, true, true, true, false, false, false, false, false, false, false, false, false, false, false, false, false] rfl rfl (any_of HT_.out (by kernel_rfl)) (fun _ _ _ h => h) (Or.inl ⟨by rfl, ?_⟩) ?_ ?_
                     rotate_left
                     ·intro w'
                      go_simp
                      with_reducible rfl
                     rotate_left
                     ·exact pA
                     refine pure_ (i := 11) (N := some 85) (v := ?_) (a' := ?_) #[true, true, true, true, true, true, true, true, true, true, true, true, false, false, false, false, false, false, false, false, false, false, false, false] rfl rfl (any_of HT_.out (by kernel_rfl)) (fun _ _ _ h => h) (Or.inl ⟨by rfl, ?_⟩) ?_ ?_
                     rotate_left
                     ·intro w'
                      go_simp
                      with_reducible rfl
                     rotate_left
                     ·exact pA
                     refine pure_ (i := 12) (N := some 86) (v := ?_) (a' := ?_) #[true, true, true, true, true, true, true, true, true, true, true, true, true, false, false, false, false, false, false, false, false, false, false, false] rfl rfl (any_of HT_.out (by kernel_rfl)) (fun _ _ _ h => h) (Or.inl ⟨by rfl, ?_⟩) ?_ ?_
                     rotate_left
                     ·intro w'
                      go_simp
                      with_reducible rfl
                     rotate_left
                     ·exact pA
                     refine pure_ (i := 13) (N := some 87) (v := ?_) (a' := ?_) #[true, true, true, true, true, true, true, true, true, true, true, true, true, true, false, false, false, false, false, false, false, false, false, false] rfl rfl (any_of HT_.out (by kernel_rfl)) (fun _ _ _ h => h) (Or.inl ⟨by rfl, ?_⟩) ?_ ?_
                     rotate_left
                     ·intro w'
                      go_simp
                      with_reducible rfl
                     rotate_left
                     ·exact pA
                     refine pure_ (i := 15) (N := some 89) (v := ?_) (a' := ?_) #[true, true, true, true, true, true, true, true, true, true, true, true, true, true, false, true, false, false, false, false, false, false, false, false] rfl rfl (any_of HT_.out (by kernel_rfl)) (fun _ _ _ h => h) (Or.inl ⟨by rfl, ?_⟩) ?_ ?_
                     rotate_left
                     ·intro w'
                      go_simp
                      with_reducible rfl
                     rotate_left
                     ·exact pA
                     refine pure_ (i := 16) (N := some 90) (v := ?_) (a' := ?_) #[true, true, true, true, true, true, true, true, true, true, true, true, true, true, false, true, true, false, false, false, false, false, false, false] rfl rfl (any_of HT_.out (by kernel_rfl)) (fun _ _ _ h => h) (Or.inl ⟨by rfl, ?_⟩) ?_ ?_
                     rotate_left
                     ·intro w'
                      go_simp
                      with_reducible rfl
                     rotate_left
                     ·exact pA
                     refine pure_ (i := 17) (N := some 91) (v := ?_) (a' := ?_) #[true, true, true, true, true, true, true, true, true, true, true, true, true, true, false, true, true, true, false, false, false, false, false, false] rfl rfl (any_of HT_.out (by kernel_rfl)) (fun _ _ _ h => h) (Or.inl ⟨by rfl, ?_⟩) ?_ ?_
                     rotate_left
                     ·intro w'
                      go_simp
                      with_reducible rfl
                     rotate_left
                     ·exact pA
                     refine pure_ (i := 18) (N := some 92) (v := ?_) (a' := ?_) #[true, true, true, true, true, true, true, true, true, true, true, true, true, true, false, true, true, true, true, false, false, false, false, false] rfl rfl (any_of HT_.out (by kernel_rfl)) (fun _ _ _ h => h) (Or.inl ⟨by rfl, ?_⟩) ?_ ?_
                     rotate_left
                     ·intro w'
                      go_simp
                      with_reducible rfl
                     rotate_left
                     ·exact pA
                     refine take_ (i := 14) (N := some 88) (v := ?_) (a' := ?_) #[true, true, true, true, true, true, true, true, true, true, true, true, true, true, true, true, true, true, true, false, false, false, false, false] rfl rfl (take_ofW HT_.out HW_.out (by kernel_rfl)) (fun _ _ _ h => h) (Or.inl ⟨by rfl, ?_⟩) hHeld ?_ ?_
                     rotate_left
                     ·rintro w' ⟨s0, s1, s2, s3, s4, s5⟩
                      go_simp
                      with_reducible rfl
                     rotate_left
                     ·exact pA
                     refine take_ (i := 19) (N := some 93) (v := ?_) (a' := ?_) #[true, true, true, true, true, true, true, true, true, true, true, true, true, true, true, true, true, true, true, true, false, false, false, false] rfl rfl (take_ofW HT_.out HW_.out (by kernel_rfl)) (fun _ _ _ h => h) (Or.inl ⟨by rfl, ?_⟩) hHeld ?_ ?_
                     rotate_left
                     ·rintro w' ⟨s0, s1, s2, s3, s4, s5⟩
                      go_simp
                      with_reducible rfl
                     rotate_left
                     ·exact pA
                     refine one_ (i := 20) (N := some 94) #[true, true, true, true, true, true, true, true, true, true, true, true, true, true, true, true, true, true, true, true, true, false, false, false] rfl rfl (one_of HT_.out (by kernel_rfl)) (by decide) (fun K hK => ?_)
                     refine goes_ Try.func26 (by kernel_rfl) rfl #[.agg #[.int .i64 ad, .int .i64 ah, .int .i64 aj], .agg #[.int .i64 ((rd_T41 ai (am)).f0), .int .i64 ((rd_T41 ai (am)).f1), .int .i64 ((rd_T41 ai (am)).f2)]] (by rfl) rfl rfl (by (try simp only [List.map_toArray, List.map_cons, List.map_nil]); first | done | (simp only [aw]; rfl) | rfl | (simp only [List.length_drop, List.length_take]; rfl)) ?_
                     with_reducible refine (pochoirref40_after.calls ad ah aj ((rd_T41 ai (am)).f0) ((rd_T41 ai (am)).f1) ((rd_T41 ai (am)).f2) true _ A46.out).mono ?_
                     rintro e bn ⟨rfl, hb⟩
                     have HS3_ := (hb.cell (World.block_lt_of_cell? _ _ (hHeld.2.2.2.1))).trans (hHeld.2.2.2.1)
                     have HS4_ := (hb.cell (World.block_lt_of_cell? _ _ (hHeld.2.2.2.2.1))).trans (hHeld.2.2.2.2.1)
                     have HS5_ := (hb.cell (World.block_lt_of_cell? _ _ (hHeld.2.2.2.2.2))).trans (hHeld.2.2.2.2.2)
                     refine ⟨_, rfl, ?_⟩
                     have af := Aside0.mk (Kd.R_below (by (with_reducible repeat (first | apply Kd.R_alloc | apply Kd.R_drewN | apply Kd.R_drew)); exact ac.out) hb)
                     have ag := Aside0.mk (blk_below (g := aa) (o := .cells #[.int .i64 ad, .int .i64 ah, .int .i64 aj] 41 (0, 0)) (by refine kB ?_; exact ab.out) hb)
                     have al := Aside0.mk (below_step (by exact lB HB.out) hb)
                     clear ac
                     clear ab
                     clear HB
                     have ac := af
                     have ab := ag
                     have HB := al
                     clear af ag al
                     (try clear hb)
                     (try clear a2)
                     (try clear hk)
                     (try clear hi)
                     refine hK.out _ _ ⟨(blk_cell ab.out 0).trans rfl, (blk_cell ab.out 1).trans rfl, (blk_cell ab.out 2).trans rfl, HS3_, HS4_, HS5_⟩ (fun hHeld => ?_)
                     clear hK K
                     refine norm_ (a' := ?_) ?_ ?_
                     rotate_left
                     ·show Act.put _ (some 94) _ = _
                      exact pA
                     refine pure_ (i := 21) (N := some 95) (v := ?_) (a' := ?_) #[true, true, true, true, true, true, true, true, true, true, true, true, true, true, true, true, true, true, true, true, true, true, false, false] rfl rfl (any_of HT_.out (by kernel_rfl)) (fun _ _ _ h => h) (Or.inl ⟨by rfl, ?_⟩) ?_ ?_
                     rotate_left
                     ·intro w'
                      go_simp
                      with_reducible rfl
                     rotate_left
                     ·exact pA
                     refine pure_ (i := 22) (N := some 96) (v := ?_) (a' := ?_) #[true, true, true, true, true, true, true, true, true, true, true, true, true, true, true, true, true, true, true, true, true, true, true, false] rfl rfl (any_of HT_.out (by kernel_rfl)) (fun _ _ _ h => h) (Or.inl ⟨by rfl, ?_⟩) ?_ ?_
                     rotate_left
                     ·intro w'
                      go_simp
                      with_reducible rfl
                     rotate_left
                     ·exact pA
                     refine pure_ (i := 23) (N := some 97) (v := ?_) (a' := ?_) #[true, true, true, true, true, true, true, true, true, true, true, true, true, true, true, true, true, true, true, true, true, true, true, true] rfl rfl (any_of HT_.out (by kernel_rfl)) (fun _ _ _ h => h) (Or.inl ⟨by rfl, ?_⟩) ?_ ?_
                     rotate_left
                     ·intro w'
                      go_simp
                      with_reducible rfl
                     rotate_left
                     ·exact pA
                     refine done_ (done_of HT_.out (by kernel_rfl)) ?_
                     have bX : bn.cell? ⟨aa, 0, none⟩ = some (.int .i64 ad) := (blk_cell ab.out 0).trans rfl
                     have bY : bn.cell? ⟨aa, 1, none⟩ = some (.int .i64 ah) := (blk_cell ab.out 1).trans rfl
                     have bZ : bn.cell? ⟨aa, 2, none⟩ = some (.int .i64 aj) := (blk_cell ab.out 2).trans rfl
                     have b0 := blk_frozen ab.out 0
                     have b1 := blk_frozen ab.out 1
                     have b2 := blk_frozen ab.out 2
                     try go_wp2_with (first | ((with_reducible refine gate_builtin (b := .append) (xs := #[.tmp 98, .tmp 100]) rfl ?_); at_builtin; refine Kd.R_append k41 (w0 := w) w.heap.size rfl (.tmp 98) (.tmp 100) 22 41 (.agg #[(.int .i64 0), (.int .i64 0), (.int .i64 0)]) 24 rfl Try.underlying22 info41 rfl (by decide) (by omega) (.slice (some ad279) ai.length bE) ai (⟨ad, ah, aj⟩ : S41) [.int .i64 ad, .int .i64 ah, .int .i64 aj] (fun k_ => k_ ≠ aa) (fun _ => False) rfl rfl ?aP (fun _ hk => hk.elim) ?aF ?aO ?aB ?aS ?aL ?_; (case aP => exact k41_mkM _ _ _ (⟨ad, ah, aj⟩ : S41)); (case aB => exact (by exact lB HB.out)); (case aF => exact (fun k_ hk => Kd.freshB (g := aa) (o := .cells #[.int .i64 ad, .int .i64 ah, .int .i64 aj] 41 (0, 0)) (by refine kB ?_; exact ab.out) k_ hk)); (case aO => exact (by (with_reducible repeat (first | apply Kd.R_alloc | apply Kd.R_drewN | apply Kd.R_drew)); exact ac.out)); (case aS => exact (below_size (by exact lB HB.out))); (case aL => have := LMc48.out; omega); intro v282 cO ho hb hg hat; rw [← Ny281.out] at ho; have af := Aside0.mk (blk_grown (g := aa) (o := .cells #[.int .i64 ad, .int .i64 ah, .int .i64 aj] 41 (0, 0)) (by refine kB ?_; exact ab.out) hg (Kd.R_away ac.out (fun _ hk => hk))); have ag := Aside0.mk (hb); have al := Aside0.mk (ho); clear ab; clear HB; clear ac; have ab := af; have HB := ag; have bz := al; clear af ag al; clear ho hb hg hat))
                     go_roundg k3
                     case measure => have := a8.out; have := HK2.out; have := HK3.out; omega
                     case rel => exact ⟨(bm), (wrap64 (ae + 1)), (by first | rfl | (simp; done) | (simp [*]; done)), H', ⟨by have := a8.out; have := HK2.out; have := HK3.out; omega⟩, ⟨by (with_reducible repeat (first | apply Kd.R_alloc | apply Kd.R_drewN | apply Kd.R_drew)); exact Kd.R_mono bz.out (fun _ hk => trivial)⟩, ⟨by exact lB HB.out⟩⟩
                    ·rw [if_neg c48] at H
                     exact absurd H (by simp)
                   ·replace c47 := Bool.eq_false_iff.mpr c47
                    subst c47
                    have H1 : (some (([] : List (S41)), 4)) = some (r1, r2) := by rw [if_neg (show ¬ (false = true) by decide)] at H; exact H
                    clear H
                    have H := H1
                    clear H1
                    simp only [Option.some.injEq, Prod.mk.injEq] at H
                    obtain ⟨rfl, rfl⟩ := H
                    try go_wp2_with (first | ((with_reducible refine gate_callee (f := 34) rfl ?_); refine goesL_ (some 62) rfl rfl Try.func34 (by kernel_rfl) rfl #[.string a0, .int .i64 (wrap64 (18 + (wrap64 (6 * ae))))] rfl (by (try simp only [List.map_toArray, List.map_cons, List.map_nil]); first | done | rfl | (simp only [List.length_drop, List.length_take]; rfl)) ?_; (with_reducible refine (pochoirref40_u16.calls k3 a0 (wrap64 (18 + (wrap64 (6 * ae)))) ad _ A27.out).mono ?_); rintro e w' ⟨rfl, ⟨nd, rfl⟩⟩; refine ⟨_, rfl, ?_⟩; (try (rw [drewN_self wr]; generalize hq_ : World.drewN wr _ = wr; have af : Aside0 (Kd.R k41 41 wr w.heap.size (fun _ => True) u9 ai) := ⟨by rw [← hq_]; exact (by (with_reducible repeat (first | apply Kd.R_alloc | apply Kd.R_drewN | apply Kd.R_drew)); exact ac.out)⟩; have ag : Aside0 (Below w.heap.size w wr) := ⟨by rw [← hq_]; exact (by exact lB HB.out)⟩; clear ac HB hq_; have ac := af; have HB := ag; clear af ag))) | ((with_reducible refine gate_callee (f := 34) rfl ?_); refine goesL_ (some 67) rfl rfl Try.func34 (by kernel_rfl) rfl #[.string a0, .int .i64 (wrap64 (20 + (wrap64 (6 * ae))))] rfl (by (try simp only [List.map_toArray, List.map_cons, List.map_nil]); first | done | rfl | (simp only [List.length_drop, List.length_take]; rfl)) ?_; (with_reducible refine (pochoirref40_u16.calls k3 a0 (wrap64 (20 + (wrap64 (6 * ae)))) ah _ A28.out).mono ?_); rintro e w' ⟨rfl, ⟨nd, rfl⟩⟩; refine ⟨_, rfl, ?_⟩; (try (rw [drewN_self wr]; generalize hq_ : World.drewN wr _ = wr; have af : Aside0 (Kd.R k41 41 wr w.heap.size (fun _ => True) u9 ai) := ⟨by rw [← hq_]; exact (by (with_reducible repeat (first | apply Kd.R_alloc | apply Kd.R_drewN | apply Kd.R_drew)); exact ac.out)⟩; have ag : Aside0 (Below w.heap.size w wr) := ⟨by rw [← hq_]; exact (by exact lB HB.out)⟩; clear ac HB hq_; have ac := af; have HB := ag; clear af ag))) | ((with_reducible refine gate_callee (f := 35) rfl ?_); refine goesL_ (some 72) rfl rfl Try.func35 (by kernel_rfl) rfl #[.string a0, .int .i64 (wrap64 (22 + (wrap64 (6 * ae))))] rfl (by (try simp only [List.map_toArray, List.map_cons, List.map_nil]); first | done | rfl | (simp only [List.length_drop, List.length_take]; rfl)) ?_; (with_reducible refine (pochoirref07_Signed.calls k3 a0 (wrap64 (22 + (wrap64 (6 * ae)))) aj _ A29.out).mono ?_); rintro e cP ⟨rfl, hb⟩; refine ⟨_, rfl, ?_⟩; have af := Aside0.mk (Kd.R_below (by (with_reducible repeat (first | apply Kd.R_alloc | apply Kd.R_drewN | apply Kd.R_drew)); exact ac.out) hb); have ag := Aside0.mk (below_step (by exact lB HB.out) hb); clear ac; clear HB; have ac := af; have HB := ag; clear af ag; (try clear hb); (try clear a2); (try clear hk); (try clear hi)) | ((with_reducible refine gate_dst (N := 11) rfl ?_); refine box_event ?hg (N := 11) ?hd (cs := #[.int .i64 0, .int .i64 0, .int .i64 0]) (t := 41) ?hr ?_; (case hd => rfl); (case hg => rfl); (case hr => first | (go_simp; done) | (go_simp; rfl)); intro aa hg a6 hbox hb; have af := Aside0.mk (Kd.R_below (Kd.R_elderB (by (with_reducible repeat (first | apply Kd.R_alloc | apply Kd.R_drewN | apply Kd.R_drew)); exact ac.out) aa (Nat.le_of_eq hg.symm)) hb); have ag := Aside0.mk (below_step (by exact lB HB.out) hb); have al := Aside0.mk (hbox); have aC := Aside0.mk ((by rw [hg]; exact (below_size (by exact lB HB.out)) : w.heap.size ≤ aa)); have aD := Aside0.mk ((by rw [hg]; exact (below_size (by exact lB HB.out)) : w.heap.size ≤ aa)); clear ac; clear HB; have ac := af; have HB := ag; have ab := al; have aY := aC; have ao := aD; clear af ag al aC aD; clear hb hbox hg; have b3 : a6.cell? ⟨aa, 0, none⟩ = some (.int .i64 0) := (blk_cell ab.out 0).trans rfl; have b4 : a6.cell? ⟨aa, 1, none⟩ = some (.int .i64 0) := (blk_cell ab.out 1).trans rfl; have b5 : a6.cell? ⟨aa, 2, none⟩ = some (.int .i64 0) := (blk_cell ab.out 2).trans rfl; have b6 := blk_frozen ab.out 0; have b7 := blk_frozen ab.out 1; have b8 := blk_frozen ab.out 2))
                    have af : Aside0 (Kd.R k41 41 (((a6.setCell ⟨aa, 0, none⟩ (.int .i64 ad)).setCell ⟨aa, 1, none⟩ (.int .i64 ah)).setCell ⟨aa, 2, none⟩ (.int .i64 aj)) w.heap.size (fun k_ => k_ ≠ aa) u9 ai) := ⟨by (with_reducible repeat (first | apply Kd.R_alloc | apply Kd.R_drewN | apply Kd.R_drew)); exact Kd.R_mono (Kd.R_far (p := ⟨aa, 2, none⟩) (Kd.R_far (p := ⟨aa, 1, none⟩) (Kd.R_far (p := ⟨aa, 0, none⟩) (Kd.R_mono ac.out (fun k_ hk => (⟨hk, hk.2⟩ : _ ∧ k_ ≠ aa))) (fun _ hk => hk.2) (.int .i64 ad)) (fun _ hk => hk.2) (.int .i64 ah)) (fun _ hk => hk.2) (.int .i64 aj)) (fun _ hk => hk.1.2)⟩
                    have ag : Aside0 ((((a6.setCell ⟨aa, 0, none⟩ (.int .i64 ad)).setCell ⟨aa, 1, none⟩ (.int .i64 ah)).setCell ⟨aa, 2, none⟩ (.int .i64 aj)).heap[aa]? = some (.cells #[.int .i64 ad, .int .i64 ah, .int .i64 aj] 41 (0, 0))) := ⟨by refine kB ?_; refine blk_put (cs := #[.int .i64 ad, .int .i64 ah, .int .i64 0]) ?_ 2 _ rfl; refine kB ?_; refine blk_put (cs := #[.int .i64 ad, .int .i64 0, .int .i64 0]) ?_ 1 _ rfl; refine kB ?_; refine blk_put (cs := #[.int .i64 0, .int .i64 0, .int .i64 0]) ?_ 0 _ rfl; refine kB ?_; exact ab.out⟩
                    have al : Aside0 (Below w.heap.size w (((a6.setCell ⟨aa, 0, none⟩ (.int .i64 ad)).setCell ⟨aa, 1, none⟩ (.int .i64 ah)).setCell ⟨aa, 2, none⟩ (.int .i64 aj))) := ⟨by exact lB HB.out⟩
                    (try clear ac)
                    (try clear ab)
                    (try clear HB)
                    generalize (((a6.setCell ⟨aa, 0, none⟩ (.int .i64 ad)).setCell ⟨aa, 1, none⟩ (.int .i64 ah)).setCell ⟨aa, 2, none⟩ (.int .i64 aj)) = cp at af ag al ⊢
                    have ac := af
                    have ab := ag
                    have HB := al
                    clear af ag al
                    have af := Aside0.mk (Kd.R_drew ac.out)
                    have ag := Aside0.mk (blk_drew ab.out)
                    have al := Aside0.mk (below_drew1 HB.out)
                    clear ac
                    clear ab
                    clear HB
                    have ac := af
                    have ab := ag
                    have HB := al
                    clear af ag al
                    obtain ⟨cA, cB, eo63⟩ := Kd.R_slice ac.out
                    (first | subst eo63 | (injection eo63 with f1_ f2_ f3_; have f4_ := f1_.symm; have f5_ := f3_.symm; clear f1_ f2_ f3_; subst f4_; subst f5_))
                    have p279 : 0 ≤ ((am) : Int) := of_decide_eq_true (by first | (with_reducible assumption) | assumption)
                    have q279 : (am) < (ai.length : Int) := of_decide_eq_true (by first | (with_reducible assumption) | assumption)
                    obtain ⟨ad279, e279, aG, aH, aI⟩ := at_T41 (Kd.R_reads' ac.out).2.2 (am) p279 q279
                    cases e279
                    replace p279 := eq_true p279
                    replace q279 := eq_true q279
                    refine start_ (n := 24) (S := fun w' => w'.cell? ⟨aa, 0, none⟩ = some (.int .i64 ad) ∧ w'.cell? ⟨aa, 1, none⟩ = some (.int .i64 ah) ∧ w'.cell? ⟨aa, 2, none⟩ = some (.int .i64 aj) ∧ w'.cell? (ad279.add (((am)).toNat * 3)) = some (.int .i64 ((rd_T41 ai (am)).f0)) ∧ w'.cell? ⟨(ad279.add (((am)).toNat * 3)).block, (ad279.add (((am)).toNat * 3)).off + 1, none⟩ = some (.int .i64 ((rd_T41 ai (am)).f1)) ∧ w'.cell? ⟨(ad279.add (((am)).toNat * 3)).block, (ad279.add (((am)).toNat * 3)).off + 2, none⟩ = some (.int .i64 ((rd_T41 ai (am)).f2))) (ds := []) #[false, false, false, false, false, false, false, false, false, false, false, false, false, false, false, false, false, false, false, false, false, false, false, false] (by kernel_rfl) rfl rfl ⟨(blk_cell ab.out 0).trans rfl, (blk_cell ab.out 1).trans rfl, (blk_cell ab.out 2).trans rfl, aG, aH, aI⟩ (fun hHeld => ?_); refine with_tabW pochoirref40_Parse.tab22 pochoirref40_Parse.bits22 (fun HT_ HW_ => ?_)
                    generalize cp.drew = cQ at ac ab HB aG aH aI hHeld ⊢
                    refine pure_ (i := 0) (N := some 74) (v := ?_) (a' := ?_) #[true, false, false, false, false, false, false, false, false, false, false, false, false, false, false, false, false, false, false, false, false, false, false, false] rfl rfl (any_of HT_.out (by kernel_rfl)) (fun _ _ _ h => h) (Or.inl ⟨by rfl, ?_⟩) ?_ ?_
                    rotate_left
                    ·intro w'
                     go_simp
                     with_reducible rfl
                    rotate_left
                    ·exact pA
                    refine pure_ (i := 2) (N := some 76) (v := ?_) (a' := ?_) #[true, false, true, false, false, false, false, false, false, false, false, false, false, false, false, false, false, false, false, false, false, false, false, false] rfl rfl (any_of HT_.out (by kernel_rfl)) (fun _ _ _ h => h) (Or.inl ⟨by rfl, ?_⟩) ?_ ?_
                    rotate_left
                    ·intro w'
                     go_simp
                     with_reducible rfl
                    rotate_left
                    ·exact pA
                    refine take_ (i := 1) (N := some 75) (v := ?_) (a' := ?_) #[true, true, true, false, false, false, false, false, false, false, false, false, false, false, false, false, false, false, false, false, false, false, false, false] rfl rfl (take_ofW HT_.out HW_.out (by kernel_rfl)) (fun _ _ _ h => h) (Or.inl ⟨by rfl, ?_⟩) hHeld ?_ ?_
                    rotate_left
                    ·rintro w' ⟨s0, s1, s2, s3, s4, s5⟩
                     go_simp
                     with_reducible rfl
                    rotate_left
                    ·exact pA
                    refine pure_ (i := 3) (N := some 77) (v := ?_) (a' := ?_) #[true, true, true, true, false, false, false, false, false, false, false, false, false, false, false, false, false, false, false, false, false, false, false, false] rfl rfl (any_of HT_.out (by kernel_rfl)) (fun _ _ _ h => h) (Or.inl ⟨by rfl, ?_⟩) ?_ ?_
                    rotate_left
                    ·intro w'
                     go_simp
                     with_reducible rfl
                    rotate_left
                    ·exact pA
                    refine pure_ (i := 4) (N := some 78) (v := ?_) (a' := ?_) #[true, true, true, true, true, false, false, false, false, false, false, false, false, false, false, false, false, false, false, false, false, false, false, false] rfl rfl (any_of HT_.out (by kernel_rfl)) (fun _ _ _ h => h) (Or.inl ⟨by rfl, ?_⟩) ?_ ?_
                    rotate_left
                    ·intro w'
                     go_simp
                     with_reducible rfl
                    rotate_left
                    ·exact pA
                    refine pure_ (i := 5) (N := some 79) (v := ?_) (a' := ?_) #[true, true, true, true, true, true, false, false, false, false, false, false, false, false, false, false, false, false, false, false, false, false, false, false] rfl rfl (any_of HT_.out (by kernel_rfl)) (fun _ _ _ h => h) (Or.inl ⟨by rfl, ?_⟩) ?_ ?_
                    rotate_left
                    ·intro w'
                     go_simp
                     with_reducible rfl
                    rotate_left
                    ·exact pA
                    refine pure_ (i := 7) (N := some 81) (v := ?_) (a' := ?_) #[true, true, true, true, true, true, false, true, false, false, false, false, false, false, false, false, false, false, false, false, false, false, false, false] rfl rfl (any_of HT_.out (by kernel_rfl)) (fun _ _ _ h => h) (Or.inl ⟨by rfl, ?_⟩) ?_ ?_
                    rotate_left
                    ·intro w'
                     go_simp
                     with_reducible rfl
                    rotate_left
                    ·exact pA
                    refine take_ (i := 6) (N := some 80) (v := ?_) (a' := ?_) #[true, true, true, true, true, true, true, true, false, false, false, false, false, false, false, false, false, false, false, false, false, false, false, false] rfl rfl (take_ofW HT_.out HW_.out (by kernel_rfl)) (fun _ _ _ h => h) (Or.inl ⟨by rfl, ?_⟩) hHeld ?_ ?_
                    rotate_left
                    ·rintro w' ⟨s0, s1, s2, s3, s4, s5⟩
                     go_simp
                     with_reducible rfl
                    rotate_left
                    ·exact pA
                    refine pure_ (i := 8) (N := some 82) (v := ?_) (a' := ?_) #[true, true, true, true, true, true, true, true, true, false, false, false, false, false, false, false, false, false, false, false, false, false, false, false] rfl rfl (any_of HT_.out (by kernel_rfl)) (fun _ _ _ h => h) (Or.inl ⟨by rfl, ?_⟩) ?_ ?_
                    rotate_left
                    ·intro w'
                     go_simp
                     with_reducible rfl
                    rotate_left
                    ·exact pA
                    refine pure_ (i := 9) (N := some 83) (v := ?_) (a' := ?_) #[true, true, true, true, true, true, true, true, true, true, false, false, false, false, false, false, false, false, false, false, false, false, false, false] rfl rfl (any_of HT_.out (by kernel_rfl)) (fun _ _ _ h => h) (Or.inl ⟨by rfl, ?_⟩) ?_ ?_
                    rotate_left
                    ·intro w'
                     go_simp
                     with_reducible rfl
                    rotate_left
                    ·exact pA
                    refine pure_ (i := 10) (N := some 84) (v := ?_) (a' := ?_) #[true, true, true, true, true, true, true, true, true, true, true, false, false, false, false, false, false, false, false, false, false, false, false, false] rfl rfl (any_of HT_.out (by kernel_rfl)) (fun _ _ _ h => h) (Or.inl ⟨by rfl, ?_⟩) ?_ ?_
                    rotate_left
                    ·intro w'
                     go_simp
                     with_reducible rfl
                    rotate_left
                    ·exact pA
                    refine pure_ (i := 11) (N := some 85) (v := ?_) (a' := ?_) #[true, true, true, true, true, true, true, true, true, true, true, true, false, false, false, false, false, false, false, false, false, false, false, false] rfl rfl (any_of HT_.out (by kernel_rfl)) (fun _ _ _ h => h) (Or.inl ⟨by rfl, ?_⟩) ?_ ?_
                    rotate_left
                    ·intro w'
                     go_simp
                     with_reducible rfl
                    rotate_left
                    ·exact pA
                    refine pure_ (i := 12) (N := some 86) (v := ?_) (a' := ?_) #[true, true, true, true, true, true, true, true, true, true, true, true, true, false, false, false, false, false, false, false, false, false, false, false] rfl rfl (any_of HT_.out (by kernel_rfl)) (fun _ _ _ h => h) (Or.inl ⟨by rfl, ?_⟩) ?_ ?_
                    rotate_left
                    ·intro w'
                     go_simp
                     with_reducible rfl
                    rotate_left
                    ·exact pA
                    refine pure_ (i := 13) (N := some 87) (v := ?_) (a' := ?_) #[true, true, true, true, true, true, true, true, true, true, true, true, true, true, false, false, false, false, false, false, false, false, false, false] rfl rfl (any_of HT_.out (by kernel_rfl)) (fun _ _ _ h => h) (Or.inl ⟨by rfl, ?_⟩) ?_ ?_
                    rotate_left
                    ·intro w'
                     go_simp
                     with_reducible rfl
                    rotate_left
                    ·exact pA
                    refine pure_ (i := 15) (N := some 89) (v := ?_) (a' := ?_) #[true, true, true, true, true, true, true, true, true, true, true, true, true, true, false, true, false, false, false, false, false, false, false, false] rfl rfl (any_of HT_.out (by kernel_rfl)) (fun _ _ _ h => h) (Or.inl ⟨by rfl, ?_⟩) ?_ ?_
                    rotate_left
                    ·intro w'
                     go_simp
                     with_reducible rfl
                    rotate_left
                    ·exact pA
                    refine pure_ (i := 16) (N := some 90) (v := ?_) (a' := ?_) #[true, true, true, true, true, true, true, true, true, true, true, true, true, true, false, true, true, false, false, false, false, false, false, false] rfl rfl (any_of HT_.out (by kernel_rfl)) (fun _ _ _ h => h) (Or.inl ⟨by rfl, ?_⟩) ?_ ?_
                    rotate_left
                    ·intro w'
                     go_simp
                     with_reducible rfl
                    rotate_left
                    ·exact pA
                    refine pure_ (i := 17) (N := some 91) (v := ?_) (a' := ?_) #[true, true, true, true, true, true, true, true, true, true, true, true, true, true, false, true, true, true, false, false, false, false, false, false] rfl rfl (any_of HT_.out (by kernel_rfl)) (fun _ _ _ h => h) (Or.inl ⟨by rfl, ?_⟩) ?_ ?_
                    rotate_left
                    ·intro w'
                     go_simp
                     with_reducible rfl
                    rotate_left
                    ·exact pA
                    refine pure_ (i := 18) (N := some 92) (v := ?_) (a' := ?_) #[true, true, true, true, true, true, true, true, true, true, true, true, true, true, false, true, true, true, true, false, false, false, false, false] rfl rfl (any_of HT_.out (by kernel_rfl)) (fun _ _ _ h => h) (Or.inl ⟨by rfl, ?_⟩) ?_ ?_
                    rotate_left
                    ·intro w'
                     go_simp
                     with_reducible rfl
                    rotate_left
                    ·exact pA
                    refine take_ (i := 14) (N := some 88) (v := ?_) (a' := ?_) #[true, true, true, true, true, true, true, true, true, true, true, true, true, true, true, true, true, true, true, false, false, false, false, false] rfl rfl (take_ofW HT_.out HW_.out (by kernel_rfl)) (fun _ _ _ h => h) (Or.inl ⟨by rfl, ?_⟩) hHeld ?_ ?_
                    rotate_left
                    ·rintro w' ⟨s0, s1, s2, s3, s4, s5⟩
                     go_simp
                     with_reducible rfl
                    rotate_left
                    ·exact pA
                    refine take_ (i := 19) (N := some 93) (v := ?_) (a' := ?_) #[true, true, true, true, true, true, true, true, true, true, true, true, true, true, true, true, true, true, true, true, false, false, false, false] rfl rfl (take_ofW HT_.out HW_.out (by kernel_rfl)) (fun _ _ _ h => h) (Or.inl ⟨by rfl, ?_⟩) hHeld ?_ ?_
                    rotate_left
                    ·rintro w' ⟨s0, s1, s2, s3, s4, s5⟩
                     go_simp
                     with_reducible rfl
                    rotate_left
                    ·exact pA
                    refine one_ (i := 20) (N := some 94) #[true, true, true, true, true, true, true, true, true, true, true, true, true, true, true, true, true, true, true, true, true, false, false, false] rfl rfl (one_of HT_.out (by kernel_rfl)) (by decide) (fun K hK => ?_)
                    refine goes_ Try.func26 (by kernel_rfl) rfl #[.agg #[.int .i64 ad, .int .i64 ah, .int .i64 aj], .agg #[.int .i64 ((rd_T41 ai (am)).f0), .int .i64 ((rd_T41 ai (am)).f1), .int .i64 ((rd_T41 ai (am)).f2)]] (by rfl) rfl rfl (by (try simp only [List.map_toArray, List.map_cons, List.map_nil]); first | done | (simp only [aw]; rfl) | rfl | (simp only [List.length_drop, List.length_take]; rfl)) ?_
                    with_reducible refine (pochoirref40_after.calls ad ah aj ((rd_T41 ai (am)).f0) ((rd_T41 ai (am)).f1) ((rd_T41 ai (am)).f2) false _ A46.out).mono ?_
                    rintro e cR ⟨rfl, hb⟩
                    have HS3_ := (hb.cell (World.block_lt_of_cell? _ _ (hHeld.2.2.2.1))).trans (hHeld.2.2.2.1)
                    have HS4_ := (hb.cell (World.block_lt_of_cell? _ _ (hHeld.2.2.2.2.1))).trans (hHeld.2.2.2.2.1)
                    have HS5_ := (hb.cell (World.block_lt_of_cell? _ _ (hHeld.2.2.2.2.2))).trans (hHeld.2.2.2.2.2)
                    refine ⟨_, rfl, ?_⟩
                    have af := Aside0.mk (Kd.R_below (by (with_reducible repeat (first | apply Kd.R_alloc | apply Kd.R_drewN | apply Kd.R_drew)); exact ac.out) hb)
                    have ag := Aside0.mk (blk_below (g := aa) (o := .cells #[.int .i64 ad, .int .i64 ah, .int .i64 aj] 41 (0, 0)) (by refine kB ?_; exact ab.out) hb)
                    have al := Aside0.mk (below_step (by exact lB HB.out) hb)
                    clear ac
                    clear ab
                    clear HB
                    have ac := af
                    have ab := ag
                    have HB := al
                    clear af ag al
                    (try clear hb)
                    (try clear a2)
                    (try clear hk)
                    (try clear hi)
                    refine hK.out _ _ ⟨(blk_cell ab.out 0).trans rfl, (blk_cell ab.out 1).trans rfl, (blk_cell ab.out 2).trans rfl, HS3_, HS4_, HS5_⟩ (fun hHeld => ?_)
                    clear hK K
                    refine norm_ (a' := ?_) ?_ ?_
                    rotate_left
                    ·show Act.put _ (some 94) _ = _
                     exact pA
                    refine pure_ (i := 21) (N := some 95) (v := ?_) (a' := ?_) #[true, true, true, true, true, true, true, true, true, true, true, true, true, true, true, true, true, true, true, true, true, true, false, false] rfl rfl (any_of HT_.out (by kernel_rfl)) (fun _ _ _ h => h) (Or.inl ⟨by rfl, ?_⟩) ?_ ?_
                    rotate_left
                    ·intro w'
                     go_simp
                     with_reducible rfl
                    rotate_left
                    ·exact pA
                    refine pure_ (i := 22) (N := some 96) (v := ?_) (a' := ?_) #[true, true, true, true, true, true, true, true, true, true, true, true, true, true, true, true, true, true, true, true, true, true, true, false] rfl rfl (any_of HT_.out (by kernel_rfl)) (fun _ _ _ h => h) (Or.inl ⟨by rfl, ?_⟩) ?_ ?_
                    rotate_left
                    ·intro w'
                     go_simp
                     with_reducible rfl
                    rotate_left
                    ·exact pA
                    refine pure_ (i := 23) (N := some 97) (v := ?_) (a' := ?_) #[true, true, true, true, true, true, true, true, true, true, true, true, true, true, true, true, true, true, true, true, true, true, true, true] rfl rfl (any_of HT_.out (by kernel_rfl)) (fun _ _ _ h => h) (Or.inl ⟨by rfl, ?_⟩) ?_ ?_
                    rotate_left
                    ·intro w'
                     go_simp
                     with_reducible rfl
                    rotate_left
                    ·exact pA
                    refine done_ (done_of HT_.out (by kernel_rfl)) ?_
                    try go_wp2
                    go_ret2
                    exact ⟨_, by first | rfl | (simp [errW_none, errW_some] <;> rfl) | (simp only [← aw]; first | rfl | (simp [errW_none, errW_some] <;> rfl)) | (simp [*, errW_none, errW_some] <;> rfl), by first | exact Kd.R_nil _ _ _ _ _ | exact Kd.N_nil _ _ _ _ _ | exact Kd.V_nil _ _ _ _ _ | exact Kd.Q_nil _ _ _ _ _ | exact Kd.S_nil _ _ _ _ _, by exact lB HB.out⟩
                  ·rw [if_neg c45] at H
                   exact absurd H (by simp)
                 ·rw [if_neg c44] at H
                  exact absurd H (by simp)
                ·rw [if_neg c42] at H
                 have bx : decide (0 < ae) = false := decide_eq_false c42
                 clear c42
                 by_cases c65 : ai.length < 5864062014805
                 ·rw [if_pos c65] at H
                  have LMc65 := Aside0.mk c65
                  clear c65
                  obtain ⟨bo, aW⟩ : ∃ y_ : List (S41), y_ = (ai ++ [(⟨ad, ah, aj⟩ : S41)]) := ⟨_, rfl⟩
                  replace H : (pochoirref40_Parse.l1 k3 a0 a1 ak bo (wrap64 (ae + 1))) = some (r1, r2) := by first | (rw [aW]; with_reducible exact H) | (have H2_ := (Option.bind_some _ _).symm.trans H; rw [aW]; with_reducible exact H2_) | (have H2_ := (Option.bind_some _ _).symm.trans H; with_reducible exact H2_) | with_reducible exact H | (rw [aW]; exact H) | exact H
                  have Ny284 := Aside0.mk aW
                  clear aW
                  have H' := Aside0.mk H
                  clear H
                  try go_wp2_with (first | ((with_reducible refine gate_callee (f := 34) rfl ?_); refine goesL_ (some 62) rfl rfl Try.func34 (by kernel_rfl) rfl #[.string a0, .int .i64 (wrap64 (18 + (wrap64 (6 * ae))))] rfl (by (try simp only [List.map_toArray, List.map_cons, List.map_nil]); first | done | rfl | (simp only [List.length_drop, List.length_take]; rfl)) ?_; (with_reducible refine (pochoirref40_u16.calls k3 a0 (wrap64 (18 + (wrap64 (6 * ae)))) ad _ A27.out).mono ?_); rintro e w' ⟨rfl, ⟨nd, rfl⟩⟩; refine ⟨_, rfl, ?_⟩; (try (rw [drewN_self wr]; generalize hq_ : World.drewN wr _ = wr; have af : Aside0 (Kd.R k41 41 wr w.heap.size (fun _ => True) u9 ai) := ⟨by rw [← hq_]; exact (by (with_reducible repeat (first | apply Kd.R_alloc | apply Kd.R_drewN | apply Kd.R_drew)); exact ac.out)⟩; have ag : Aside0 (Below w.heap.size w wr) := ⟨by rw [← hq_]; exact (by exact lB HB.out)⟩; clear ac HB hq_; have ac := af; have HB := ag; clear af ag))) | ((with_reducible refine gate_callee (f := 34) rfl ?_); refine goesL_ (some 67) rfl rfl Try.func34 (by kernel_rfl) rfl #[.string a0, .int .i64 (wrap64 (20 + (wrap64 (6 * ae))))] rfl (by (try simp only [List.map_toArray, List.map_cons, List.map_nil]); first | done | rfl | (simp only [List.length_drop, List.length_take]; rfl)) ?_; (with_reducible refine (pochoirref40_u16.calls k3 a0 (wrap64 (20 + (wrap64 (6 * ae)))) ah _ A28.out).mono ?_); rintro e w' ⟨rfl, ⟨nd, rfl⟩⟩; refine ⟨_, rfl, ?_⟩; (try (rw [drewN_self wr]; generalize hq_ : World.drewN wr _ = wr; have af : Aside0 (Kd.R k41 41 wr w.heap.size (fun _ => True) u9 ai) := ⟨by rw [← hq_]; exact (by (with_reducible repeat (first | apply Kd.R_alloc | apply Kd.R_drewN | apply Kd.R_drew)); exact ac.out)⟩; have ag : Aside0 (Below w.heap.size w wr) := ⟨by rw [← hq_]; exact (by exact lB HB.out)⟩; clear ac HB hq_; have ac := af; have HB := ag; clear af ag))) | ((with_reducible refine gate_callee (f := 35) rfl ?_); refine goesL_ (some 72) rfl rfl Try.func35 (by kernel_rfl) rfl #[.string a0, .int .i64 (wrap64 (22 + (wrap64 (6 * ae))))] rfl (by (try simp only [List.map_toArray, List.map_cons, List.map_nil]); first | done | rfl | (simp only [List.length_drop, List.length_take]; rfl)) ?_; (with_reducible refine (pochoirref07_Signed.calls k3 a0 (wrap64 (22 + (wrap64 (6 * ae)))) aj _ A29.out).mono ?_); rintro e cS ⟨rfl, hb⟩; refine ⟨_, rfl, ?_⟩; have af := Aside0.mk (Kd.R_below (by (with_reducible repeat (first | apply Kd.R_alloc | apply Kd.R_drewN | apply Kd.R_drew)); exact ac.out) hb); have ag := Aside0.mk (below_step (by exact lB HB.out) hb); clear ac; clear HB; have ac := af; have HB := ag; clear af ag; (try clear hb); (try clear a2); (try clear hk); (try clear hi)) | ((with_reducible refine gate_dst (N := 11) rfl ?_); refine box_event ?hg (N := 11) ?hd (cs := #[.int .i64 0, .int .i64 0, .int .i64 0]) (t := 41) ?hr ?_; (case hd => rfl); (case hg => rfl); (case hr => first | (go_simp; done) | (go_simp; rfl)); intro aa hg a7 hbox hb; have af := Aside0.mk (Kd.R_below (Kd.R_elderB (by (with_reducible repeat (first | apply Kd.R_alloc | apply Kd.R_drewN | apply Kd.R_drew)); exact ac.out) aa (Nat.le_of_eq hg.symm)) hb); have ag := Aside0.mk (below_step (by exact lB HB.out) hb); have al := Aside0.mk (hbox); have aC := Aside0.mk ((by rw [hg]; exact (below_size (by exact lB HB.out)) : w.heap.size ≤ aa)); have aD := Aside0.mk ((by rw [hg]; exact (below_size (by exact lB HB.out)) : w.heap.size ≤ aa)); clear ac; clear HB; have ac := af; have HB := ag; have ab := al; have aY := aC; have ao := aD; clear af ag al aC aD; clear hb hbox hg; have b9 : a7.cell? ⟨aa, 0, none⟩ = some (.int .i64 0) := (blk_cell ab.out 0).trans rfl; have ca : a7.cell? ⟨aa, 1, none⟩ = some (.int .i64 0) := (blk_cell ab.out 1).trans rfl; have cb : a7.cell? ⟨aa, 2, none⟩ = some (.int .i64 0) := (blk_cell ab.out 2).trans rfl; have cc := blk_frozen ab.out 0; have cd := blk_frozen ab.out 1; have ce := blk_frozen ab.out 2))
                  have af : Aside0 (Kd.R k41 41 (((a7.setCell ⟨aa, 0, none⟩ (.int .i64 ad)).setCell ⟨aa, 1, none⟩ (.int .i64 ah)).setCell ⟨aa, 2, none⟩ (.int .i64 aj)) w.heap.size (fun k_ => k_ ≠ aa) u9 ai) := ⟨by (with_reducible repeat (first | apply Kd.R_alloc | apply Kd.R_drewN | apply Kd.R_drew)); exact Kd.R_mono (Kd.R_far (p := ⟨aa, 2, none⟩) (Kd.R_far (p := ⟨aa, 1, none⟩) (Kd.R_far (p := ⟨aa, 0, none⟩) (Kd.R_mono ac.out (fun k_ hk => (⟨hk, hk.2⟩ : _ ∧ k_ ≠ aa))) (fun _ hk => hk.2) (.int .i64 ad)) (fun _ hk => hk.2) (.int .i64 ah)) (fun _ hk => hk.2) (.int .i64 aj)) (fun _ hk => hk.1.2)⟩
                  have ag : Aside0 ((((a7.setCell ⟨aa, 0, none⟩ (.int .i64 ad)).setCell ⟨aa, 1, none⟩ (.int .i64 ah)).setCell ⟨aa, 2, none⟩ (.int .i64 aj)).heap[aa]? = some (.cells #[.int .i64 ad, .int .i64 ah, .int .i64 aj] 41 (0, 0))) := ⟨by refine kB ?_; refine blk_put (cs := #[.int .i64 ad, .int .i64 ah, .int .i64 0]) ?_ 2 _ rfl; refine kB ?_; refine blk_put (cs := #[.int .i64 ad, .int .i64 0, .int .i64 0]) ?_ 1 _ rfl; refine kB ?_; refine blk_put (cs := #[.int .i64 0, .int .i64 0, .int .i64 0]) ?_ 0 _ rfl; refine kB ?_; exact ab.out⟩
                  have al : Aside0 (Below w.heap.size w (((a7.setCell ⟨aa, 0, none⟩ (.int .i64 ad)).setCell ⟨aa, 1, none⟩ (.int .i64 ah)).setCell ⟨aa, 2, none⟩ (.int .i64 aj))) := ⟨by exact lB HB.out⟩
                  (try clear ac)
                  (try clear ab)
                  (try clear HB)
                  generalize (((a7.setCell ⟨aa, 0, none⟩ (.int .i64 ad)).setCell ⟨aa, 1, none⟩ (.int .i64 ah)).setCell ⟨aa, 2, none⟩ (.int .i64 aj)) = cq at af ag al ⊢
                  have ac := af
                  have ab := ag
                  have HB := al
                  clear af ag al
                  have af := Aside0.mk (Kd.R_drew ac.out)
                  have ag := Aside0.mk (blk_drew ab.out)
                  have al := Aside0.mk (below_drew1 HB.out)
                  clear ac
                  clear ab
                  clear HB
                  have ac := af
                  have ab := ag
                  have HB := al
                  clear af ag al
                  refine start_ (n := 24) (S := fun w' => w'.cell? ⟨aa, 0, none⟩ = some (.int .i64 ad) ∧ w'.cell? ⟨aa, 1, none⟩ = some (.int .i64 ah) ∧ w'.cell? ⟨aa, 2, none⟩ = some (.int .i64 aj)) (ds := []) #[false, false, false, false, false, false, false, false, false, false, false, false, false, false, false, false, false, false, false, false, false, false, false, false] (by kernel_rfl) rfl rfl ⟨(blk_cell ab.out 0).trans rfl, (blk_cell ab.out 1).trans rfl, (blk_cell ab.out 2).trans rfl⟩ (fun hHeld => ?_); refine with_tabW pochoirref40_Parse.tab22 pochoirref40_Parse.bits22 (fun HT_ HW_ => ?_)
                  generalize cq.drew = bp at ac ab HB hHeld ⊢
                  refine pure_ (i := 0) (N := some 74) (v := ?_) (a' := ?_) #[true, false, false, false, false, false, false, false, false, false, false, false, false, false, false, false, false, false, false, false, false, false, false, false] rfl rfl (any_of HT_.out (by kernel_rfl)) (fun _ _ _ h => h) (Or.inl ⟨by rfl, ?_⟩) ?_ ?_
                  rotate_left
                  ·intro w'
                   go_simp
                   with_reducible rfl
                  rotate_left
                  ·exact pA
                  refine pure_ (i := 2) (N := some 76) (v := ?_) (a' := ?_) #[true, false, true, false, false, false, false, false, false, false, false, false, false, false, false, false, false, false, false, false, false, false, false, false] rfl rfl (any_of HT_.out (by kernel_rfl)) (fun _ _ _ h => h) (Or.inl ⟨by rfl, ?_⟩) ?_ ?_
                  rotate_left
                  ·intro w'
                   go_simp
                   with_reducible rfl
                  rotate_left
                  ·exact pA
                  refine take_ (i := 1) (N := some 75) (v := ?_) (a' := ?_) #[true, true, true, false, false, false, false, false, false, false, false, false, false, false, false, false, false, false, false, false, false, false, false, false] rfl rfl (take_ofW HT_.out HW_.out (by kernel_rfl)) (fun _ _ _ h => h) (Or.inl ⟨by rfl, ?_⟩) hHeld ?_ ?_
                  rotate_left
                  ·rintro w' ⟨s0, s1, s2⟩
                   go_simp
                   with_reducible rfl
                  rotate_left
                  ·exact pA
                  refine pure_ (i := 3) (N := some 77) (v := ?_) (a' := ?_) #[true, true, true, true, false, false, false, false, false, false, false, false, false, false, false, false, false, false, false, false, false, false, false, false] rfl rfl (any_of HT_.out (by kernel_rfl)) (fun _ _ _ h => h) (Or.inl ⟨by rfl, ?_⟩) ?_ ?_
                  rotate_left
                  ·intro w'
                   go_simp
                   with_reducible rfl
                  rotate_left
                  ·exact pA
                  refine pure_ (i := 4) (N := some 78) (v := ?_) (a' := ?_) #[true, true, true, true, true, false, false, false, false, false, false, false, false, false, false, false, false, false, false, false, false, false, false, false] rfl rfl (any_of HT_.out (by kernel_rfl)) (fun _ _ _ h => h) (Or.inl ⟨by rfl, ?_⟩) ?_ ?_
                  rotate_left
                  ·intro w'
                   go_simp
                   with_reducible rfl
                  rotate_left
                  ·exact pA
                  refine pure_ (i := 5) (N := some 79) (v := ?_) (a' := ?_) #[true, true, true, true, true, true, false, false, false, false, false, false, false, false, false, false, false, false, false, false, false, false, false, false] rfl rfl (any_of HT_.out (by kernel_rfl)) (fun _ _ _ h => h) (Or.inl ⟨by rfl, ?_⟩) ?_ ?_
                  rotate_left
                  ·intro w'
                   go_simp
                   with_reducible rfl
                  rotate_left
                  ·exact pA
                  refine pure_ (i := 7) (N := some 81) (v := ?_) (a' := ?_) #[true, true, true, true, true, true, false, true, false, false, false, false, false, false, false, false, false, false, false, false, false, false, false, false] rfl rfl (any_of HT_.out (by kernel_rfl)) (fun _ _ _ h => h) (Or.inl ⟨by rfl, ?_⟩) ?_ ?_
                  rotate_left
                  ·intro w'
                   go_simp
                   with_reducible rfl
                  rotate_left
                  ·exact pA
                  refine take_ (i := 6) (N := some 80) (v := ?_) (a' := ?_) #[true, true, true, true, true, true, true, true, false, false, false, false, false, false, false, false, false, false, false, false, false, false, false, false] rfl rfl (take_ofW HT_.out HW_.out (by kernel_rfl)) (fun _ _ _ h => h) (Or.inl ⟨by rfl, ?_⟩) hHeld ?_ ?_
                  rotate_left
                  ·rintro w' ⟨s0, s1, s2⟩
                   go_simp
                   with_reducible rfl
                  rotate_left
                  ·exact pA
                  refine pure_ (i := 8) (N := some 82) (v := ?_) (a' := ?_) #[true, true, true, true, true, true, true, true, true, false, false, false, false, false, false, false, false, false, false, false, false, false, false, false] rfl rfl (any_of HT_.out (by kernel_rfl)) (fun _ _ _ h => h) (Or.inl ⟨by rfl, ?_⟩) ?_ ?_
                  rotate_left
                  ·intro w'
                   go_simp
                   with_reducible rfl
                  rotate_left
                  ·exact pA
                  refine pure_ (i := 9) (N := some 83) (v := ?_) (a' := ?_) #[true, true, true, true, true, true, true, true, true, true, false, false, false, false, false, false, false, false, false, false, false, false, false, false] rfl rfl (any_of HT_.out (by kernel_rfl)) (fun _ _ _ h => h) (Or.inl ⟨by rfl, ?_⟩) ?_ ?_
                  rotate_left
                  ·intro w'
                   go_simp
                   with_reducible rfl
                  rotate_left
                  ·exact pA
                  refine pure_ (i := 10) (N := some 84) (v := ?_) (a' := ?_) #[true, true, true, true, true, true, true, true, true, true, true, false, false, false, false, false, false, false, false, false, false, false, false, false] rfl rfl (any_of HT_.out (by kernel_rfl)) (fun _ _ _ h => h) (Or.inl ⟨by rfl, ?_⟩) ?_ ?_
                  rotate_left
                  ·intro w'
                   go_simp
                   with_reducible rfl
                  rotate_left
                  ·exact pA
                  refine pure_ (i := 11) (N := some 85) (v := ?_) (a' := ?_) #[true, true, true, true, true, true, true, true, true, true, true, true, false, false, false, false, false, false, false, false, false, false, false, false] rfl rfl (any_of HT_.out (by kernel_rfl)) (fun _ _ _ h => h) (Or.inl ⟨by rfl, ?_⟩) ?_ ?_
                  rotate_left
                  ·intro w'
                   go_simp
                   with_reducible rfl
                  rotate_left
                  ·exact pA
                  refine pure_ (i := 12) (N := some 86) (v := ?_) (a' := ?_) #[true, true, true, true, true, true, true, true, true, true, true, true, true, false, false, false, false, false, false, false, false, false, false, false] rfl rfl (any_of HT_.out (by kernel_rfl)) (fun _ _ _ h => h) (Or.inl ⟨by rfl, ?_⟩) ?_ ?_
                  rotate_left
                  ·intro w'
                   go_simp
                   with_reducible rfl
                  rotate_left
                  ·exact pA
                  refine pure_ (i := 13) (N := some 87) (v := ?_) (a' := ?_) #[true, true, true, true, true, true, true, true, true, true, true, true, true, true, false, false, false, false, false, false, false, false, false, false] rfl rfl (any_of HT_.out (by kernel_rfl)) (fun _ _ _ h => h) (Or.inl ⟨by rfl, ?_⟩) ?_ ?_
                  rotate_left
                  ·intro w'
                   go_simp
                   with_reducible rfl
                  rotate_left
                  ·exact pA
                  refine pure_ (i := 14) (N := some 88) (v := undef) (a' := ?_) #[true, true, true, true, true, true, true, true, true, true, true, true, true, true, true, false, false, false, false, false, false, false, false, false] rfl rfl (any_of HT_.out (by kernel_rfl)) (fun _ _ _ h => h) (Or.inr ⟨by rfl, rfl⟩) ?_ ?_
                  rotate_left
                  ·exact pA
                  refine pure_ (i := 15) (N := some 89) (v := undef) (a' := ?_) #[true, true, true, true, true, true, true, true, true, true, true, true, true, true, true, true, false, false, false, false, false, false, false, false] rfl rfl (any_of HT_.out (by kernel_rfl)) (fun _ _ _ h => h) (Or.inr ⟨by rfl, rfl⟩) ?_ ?_
                  rotate_left
                  ·exact pA
                  refine pure_ (i := 16) (N := some 90) (v := undef) (a' := ?_) #[true, true, true, true, true, true, true, true, true, true, true, true, true, true, true, true, true, false, false, false, false, false, false, false] rfl rfl (any_of HT_.out (by kernel_rfl)) (fun _ _ _ h => h) (Or.inr ⟨by rfl, rfl⟩) ?_ ?_
                  rotate_left
                  ·exact pA
                  refine pure_ (i := 17) (N := some 91) (v := undef) (a' := ?_) #[true, true, true, true, true, true, true, true, true, true, true, true, true, true, true, true, true, true, false, false, false, false, false, false] rfl rfl (any_of HT_.out (by kernel_rfl)) (fun _ _ _ h => h) (Or.inr ⟨by rfl, rfl⟩) ?_ ?_
                  rotate_left
                  ·exact pA
                  refine pure_ (i := 18) (N := some 92) (v := undef) (a' := ?_) #[true, true, true, true, true, true, true, true, true, true, true, true, true, true, true, true, true, true, true, false, false, false, false, false] rfl rfl (any_of HT_.out (by kernel_rfl)) (fun _ _ _ h => h) (Or.inr ⟨by rfl, rfl⟩) ?_ ?_
                  rotate_left
                  ·exact pA
                  refine pure_ (i := 19) (N := some 93) (v := undef) (a' := ?_) #[true, true, true, true, true, true, true, true, true, true, true, true, true, true, true, true, true, true, true, true, false, false, false, false] rfl rfl (any_of HT_.out (by kernel_rfl)) (fun _ _ _ h => h) (Or.inr ⟨by rfl, rfl⟩) ?_ ?_
                  rotate_left
                  ·exact pA
                  refine pure_ (i := 20) (N := some 94) (v := undef) (a' := ?_) #[true, true, true, true, true, true, true, true, true, true, true, true, true, true, true, true, true, true, true, true, true, false, false, false] rfl rfl (any_of HT_.out (by kernel_rfl)) (fun _ _ _ h => h) (Or.inr ⟨by rfl, rfl⟩) ?_ ?_
                  rotate_left
                  ·exact pA
                  refine pure_ (i := 21) (N := some 95) (v := undef) (a' := ?_) #[true, true, true, true, true, true, true, true, true, true, true, true, true, true, true, true, true, true, true, true, true, true, false, false] rfl rfl (any_of HT_.out (by kernel_rfl)) (fun _ _ _ h => h) (Or.inr ⟨by rfl, rfl⟩) ?_ ?_
                  rotate_left
                  ·exact pA
                  refine pure_ (i := 22) (N := some 96) (v := ?_) (a' := ?_) #[true, true, true, true, true, true, true, true, true, true, true, true, true, true, true, true, true, true, true, true, true, true, true, false] rfl rfl (any_of HT_.out (by kernel_rfl)) (fun _ _ _ h => h) (Or.inl ⟨by rfl, ?_⟩) ?_ ?_
                  rotate_left
                  ·intro w'
                   go_simp
                   with_reducible rfl
                  rotate_left
                  ·exact pA
                  refine pure_ (i := 23) (N := some 97) (v := ?_) (a' := ?_) #[true, true, true, true, true, true, true, true, true, true, true, true, true, true, true, true, true, true, true, true, true, true, true, true] rfl rfl (any_of HT_.out (by kernel_rfl)) (fun _ _ _ h => h) (Or.inl ⟨by rfl, ?_⟩) ?_ ?_
                  rotate_left
                  ·intro w'
                   go_simp
                   with_reducible rfl
                  rotate_left
                  ·exact pA
                  refine done_ (done_of HT_.out (by kernel_rfl)) ?_
                  have cf : bp.cell? ⟨aa, 0, none⟩ = some (.int .i64 ad) := (blk_cell ab.out 0).trans rfl
                  have cg : bp.cell? ⟨aa, 1, none⟩ = some (.int .i64 ah) := (blk_cell ab.out 1).trans rfl
                  have ch : bp.cell? ⟨aa, 2, none⟩ = some (.int .i64 aj) := (blk_cell ab.out 2).trans rfl
                  have ci := blk_frozen ab.out 0
                  have cj := blk_frozen ab.out 1
                  have ck := blk_frozen ab.out 2
                  try go_wp2_with (first | ((with_reducible refine gate_builtin (b := .append) (xs := #[.tmp 98, .tmp 100]) rfl ?_); at_builtin; refine Kd.R_append k41 (w0 := w) w.heap.size rfl (.tmp 98) (.tmp 100) 22 41 (.agg #[(.int .i64 0), (.int .i64 0), (.int .i64 0)]) 24 rfl Try.underlying22 info41 rfl (by decide) (by omega) u9 ai (⟨ad, ah, aj⟩ : S41) [.int .i64 ad, .int .i64 ah, .int .i64 aj] (fun k_ => k_ ≠ aa) (fun _ => False) rfl rfl ?aP (fun _ hk => hk.elim) ?aF ?aO ?aB ?aS ?aL ?_; (case aP => exact k41_mkM _ _ _ (⟨ad, ah, aj⟩ : S41)); (case aB => exact (by exact lB HB.out)); (case aF => exact (fun k_ hk => Kd.freshB (g := aa) (o := .cells #[.int .i64 ad, .int .i64 ah, .int .i64 aj] 41 (0, 0)) (by refine kB ?_; exact ab.out) k_ hk)); (case aO => exact (by (with_reducible repeat (first | apply Kd.R_alloc | apply Kd.R_drewN | apply Kd.R_drew)); exact ac.out)); (case aS => exact (below_size (by exact lB HB.out))); (case aL => have := LMc65.out; omega); intro v285 cT ho hb hg hat; rw [← Ny284.out] at ho; have af := Aside0.mk (blk_grown (g := aa) (o := .cells #[.int .i64 ad, .int .i64 ah, .int .i64 aj] 41 (0, 0)) (by refine kB ?_; exact ab.out) hg (Kd.R_away ac.out (fun _ hk => hk))); have ag := Aside0.mk (hb); have al := Aside0.mk (ho); clear ab; clear HB; clear ac; have ab := af; have HB := ag; have bA := al; clear af ag al; clear ho hb hg hat))
                  go_roundg k3
                  case measure => have := a8.out; have := HK2.out; have := HK3.out; omega
                  case rel => exact ⟨(bo), (wrap64 (ae + 1)), (by first | rfl | (simp; done) | (simp [*]; done)), H', ⟨by have := a8.out; have := HK2.out; have := HK3.out; omega⟩, ⟨by (with_reducible repeat (first | apply Kd.R_alloc | apply Kd.R_drewN | apply Kd.R_drew)); exact Kd.R_mono bA.out (fun _ hk => trivial)⟩, ⟨by exact lB HB.out⟩⟩
                 ·rw [if_neg c65] at H
                  exact absurd H (by simp)
             ·rw [if_neg c26] at H
              have bu : decide (ae < ak) = false := decide_eq_false c26
              clear c26
              simp only [Option.some.injEq, Prod.mk.injEq] at H
              obtain ⟨rfl, rfl⟩ := H
              go_wp2
              go_ret2
              exact ⟨_, by first | rfl | (simp [errW_none, errW_some] <;> rfl) | (simp [*, errW_none, errW_some] <;> rfl), by (with_reducible repeat (first | apply Kd.R_alloc | apply Kd.R_drewN | apply Kd.R_drew)); exact ac.out, by exact lB HB.out⟩
      ·rw [if_neg c10] at H
       exact absurd H (by simp)

end Go.Proofs.Ythnojbbfmcapnaa.Pr
