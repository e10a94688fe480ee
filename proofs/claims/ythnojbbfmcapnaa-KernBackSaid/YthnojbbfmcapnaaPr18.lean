-- printed by a program of this session's (wip/mp.sh), out of the translation; the texts of its folder 'given' are typed by hand
-- shortened (wip/short.py)
import Derived.Test.YthnojbbfmcapnaaPr0
import Derived.Test.YthnojbbfmcapnaaPr5
import Derived.Test.YthnojbbfmcapnaaPr11
import Derived.Test.YthnojbbfmcapnaaPr15
import Derived.Test.YthnojbbfmcapnaaPr16
import Derived.Test.YthnojbbfmcapnaaPr17
namespace Go.Proofs.Ythnojbbfmcapnaa.Pr
open Go.RowKit Go.Proofs.YthnojbbfmcapnaaW.PrintWords Go.Proofs.YthnojbbfmcapnaaW.PrintLast Go.Proofs.YthnojbbfmcapnaaW.PrintMore
attribute [local go_sem] max2_int min2_int max_two min_two max_three min_three max_four min_four   -- for this text's walks alone
set_option linter.unusedVariables false
set_option linter.unusedSimpArgs false

/-! ### kern_Parse: function 13 -/
mutual
def kern_Parse.j0 : Nat → ByteArray → Int → Bool → Option ((List (S41)) × Int)
 | 0, _, _, _ => none
 | k + 1, x0, x1, cH => if cH = true then (some (([] : List (S41)), 1)) else (if (x0.size : Int) < 18 then (some (([] : List (S41)), 3)) else ((octet_U16.f k x0 10).bind fun aQ => (if (wrap64 (aQ.1)) > 4096 then (some (([] : List (S41)), 6)) else (if 0 ≤ 18 then (if 18 ≤ (x0.size : Int) then ((kern_ahead.f k (wrap64 (aQ.1))).bind fun aE => (if (x0.extract 0 18).toList = aE.toList then (if (x0.size : Int) < (wrap64 (18 + (wrap64 (6 * (wrap64 (aQ.1)))))) then (some (([] : List (S41)), 3)) else ((octet_New.f x0).bind fun aw => ((octet_Reader_Skip.f aw.1 aw.2.1 aw.2.2 18).bind fun am => (kern_Parse.l0 k x1 ([] : List (S41)) (wrap64 (aQ.1)) 0 am.1 am.2.1 am.2.2)))) else (some (([] : List (S41)), 4)))) else (none)) else (none)))))
def kern_Parse.l0 : Nat → Int → List (S41) → Int → Int → ByteArray → Int → Bool → Option ((List (S41)) × Int)
 | 0, _, _, _, _, _, _, _ => none
 | k + 1, x1, bo, bK, bp, bl, bm, bn => if bp < bK then ((octet_Reader_U16.f k bl bm bn).bind fun aZ => ((octet_Reader_U16.f k aZ.2.1 aZ.2.2.1 aZ.2.2.2).bind fun aG => ((octet_Reader_I16.f k aG.2.1 aG.2.2.1 aG.2.2.2).bind fun ay => (if bo.length < 5864062014805 then ((some (bo ++ [(⟨wrap64 (aZ.1), wrap64 (aG.1), wrap64 (ay.1)⟩ : S41)] : List (S41))).bind fun ar => (if (mx (wrap64 (aZ.1)) (wrap64 (aG.1))) ≥ x1 then (some (([] : List (S41)), 4)) else ((kern_rises.f k ar bp).bind fun aH => (if aH = true then (kern_Parse.l0 k x1 ar bK (wrap64 (bp + 1)) ay.2.1 ay.2.2.1 ay.2.2.2) else (some (([] : List (S41)), 4)))))) else (none))))) else (some (bo, 0))
end
def kern_Parse.f (k : Nat) (a0 : ByteArray) (a1 : Int) : Option ((List (S41)) × Int) := if a1 < 1 then (kern_Parse.j0 k a0 a1 true) else (kern_Parse.j0 k a0 a1 (decide (a1 > 1024)))
theorem kern_Parse.mono_l : ∀ k, (∀ y0 y1 y2, LeO (kern_Parse.j0 k y0 y1 y2) (kern_Parse.j0 (k + 1) y0 y1 y2)) ∧ (∀ y0 y1 y2 y3 y4 y5 y6, LeO (kern_Parse.l0 k y0 y1 y2 y3 y4 y5 y6) (kern_Parse.l0 (k + 1) y0 y1 y2 y3 y4 y5 y6))
 | 0 => ⟨fun _ _ _ r h => by simp [kern_Parse.j0] at h, fun _ _ _ _ _ _ _ r h => by simp [kern_Parse.l0] at h⟩
 | k + 1 => by
  obtain ⟨ih0, ih1⟩ := kern_Parse.mono_l k
  refine ⟨?_, ?_⟩
  ·intro y0 y1 y2
   unfold kern_Parse.j0
   repeat' first
   | (with_reducible exact ih0 _ _ _)
   | (with_reducible exact ih1 _ _ _ _ _ _ _)
   | (with_reducible exact kern_ahead.mono _ _)
   | (with_reducible exact kern_rises.mono _ _ _)
   | (with_reducible exact octet_Reader_I16.mono _ _ _ _)
   | (with_reducible exact octet_Reader_U16.mono _ _ _ _)
   | (with_reducible exact octet_U16.mono _ _ _)
   | (with_reducible exact LeO.refl _)
   | (with_reducible exact LeO.none _)
   | (with_reducible refine LeO.ite ?_ ?_)
   | (with_reducible refine LeO.bind ?_ (fun _ => ?_))
   | exact ih0 _ _ _
   | exact ih1 _ _ _ _ _ _ _
   | exact kern_ahead.mono _ _
   | exact kern_rises.mono _ _ _
   | exact octet_Reader_I16.mono _ _ _ _
   | exact octet_Reader_U16.mono _ _ _ _
   | exact octet_U16.mono _ _ _
   | exact LeO.none _
   | refine LeO.ite ?_ ?_
   | refine LeO.bind ?_ (fun _ => ?_)
  ·intro y0 y1 y2 y3 y4 y5 y6
   unfold kern_Parse.l0
   repeat' first
   | (with_reducible exact ih0 _ _ _)
   | (with_reducible exact ih1 _ _ _ _ _ _ _)
   | (with_reducible exact kern_ahead.mono _ _)
   | (with_reducible exact kern_rises.mono _ _ _)
   | (with_reducible exact octet_Reader_I16.mono _ _ _ _)
   | (with_reducible exact octet_Reader_U16.mono _ _ _ _)
   | (with_reducible exact octet_U16.mono _ _ _)
   | (with_reducible exact LeO.refl _)
   | (with_reducible exact LeO.none _)
   | (with_reducible refine LeO.ite ?_ ?_)
   | (with_reducible refine LeO.bind ?_ (fun _ => ?_))
   | exact ih0 _ _ _
   | exact ih1 _ _ _ _ _ _ _
   | exact kern_ahead.mono _ _
   | exact kern_rises.mono _ _ _
   | exact octet_Reader_I16.mono _ _ _ _
   | exact octet_Reader_U16.mono _ _ _ _
   | exact octet_U16.mono _ _ _
   | exact LeO.none _
   | refine LeO.ite ?_ ?_
   | refine LeO.bind ?_ (fun _ => ?_)
theorem kern_Parse.mono : ∀ a0 a1 k, LeO (kern_Parse.f k a0 a1) (kern_Parse.f (k + 1) a0 a1) := by
 intro a0 a1 k
 obtain ⟨ih0, ih1⟩ := kern_Parse.mono_l k
 unfold kern_Parse.f
 repeat' first
   | (with_reducible exact ih0 _ _ _)
   | (with_reducible exact ih1 _ _ _ _ _ _ _)
   | (with_reducible exact kern_ahead.mono _ _)
   | (with_reducible exact kern_rises.mono _ _ _)
   | (with_reducible exact octet_Reader_I16.mono _ _ _ _)
   | (with_reducible exact octet_Reader_U16.mono _ _ _ _)
   | (with_reducible exact octet_U16.mono _ _ _)
   | (with_reducible exact LeO.refl _)
   | (with_reducible exact LeO.none _)
   | (with_reducible refine LeO.ite ?_ ?_)
   | (with_reducible refine LeO.bind ?_ (fun _ => ?_))
   | exact ih0 _ _ _
   | exact ih1 _ _ _ _ _ _ _
   | exact kern_ahead.mono _ _
   | exact kern_rises.mono _ _ _
   | exact octet_Reader_I16.mono _ _ _ _
   | exact octet_Reader_U16.mono _ _ _ _
   | exact octet_U16.mono _ _ _
   | exact LeO.none _
   | refine LeO.ite ?_ ?_
   | refine LeO.bind ?_ (fun _ => ?_)
set_option maxHeartbeats 8000000 in
set_option maxRecDepth 100000 in
theorem kern_Parse.calls (k : Nat) (a0 : ByteArray) (a1 : Int) (r1 : List (S41)) (r2 : Int) (w : World) (h : kern_Parse.f k a0 a1 = some (r1, r2)) :
  Calls Try.prog 13 #[.string a0, .int .i64 a1] w fun e w' => ∃ v0_ : Value, e = .returned (.tuple #[v0_, .int .i64 r2]) ∧ Kd.R k41 41 w' w.heap.size (fun _ => True) v0_ r1 ∧ Below w.heap.size w w' := by
 have cP := Try.underlying41
 have HB := Aside0.mk (Below.refl w.heap.size w)
 have H : (if a1 < 1 then (kern_Parse.j0 k a0 a1 true) else (kern_Parse.j0 k a0 a1 (decide (a1 > 1024)))) = some (r1, r2) := h
 clear h
 have bq := Aside0.mk H
 clear H
 go_enter Try.func13, Try.ntmps13
 go_upto_region 1 with (fail)
 go_cut [13] (fun v13 wc => ∃ (kq : Nat) (a7 : Bool), v13 = .bool a7 ∧ Aside0 (kern_Parse.j0 kq a0 a1 a7 = some (r1, r2)) ∧ Aside0 (kq ≤ k) ∧ Aside0 (Below w.heap.size w wc))
 case first =>
  have H := bq.out
  clear bq
  by_cases c4 : a1 < 1
  ·rw [if_pos c4] at H
   have aY : decide (a1 < 1) = true := decide_eq_true c4
   clear c4
   (first | rw [aY] | (simp only [i64_w, i32_w]; rw [aY]) | skip)
   have H' := Aside0.mk H
   clear H
   go_wp2
   go_meet
   case rel => exact ⟨_, (true), (by first | rfl | (simp; done) | (simp [*]; done)), H', ⟨by first | omega | exact Nat.le_refl _⟩, ⟨by exact lB HB.out⟩⟩
  ·rw [if_neg c4] at H
   have aY : decide (a1 < 1) = false := decide_eq_false c4
   clear c4
   (first | rw [aY] | (simp only [i64_w, i32_w]; rw [aY]) | skip)
   have H' := Aside0.mk H
   clear H
   go_wp2
   go_meet
   case rel => exact ⟨_, (decide (a1 > 1024)), (by first | rfl | (simp; done) | (simp [*]; done)), H', ⟨by first | omega | exact Nat.le_refl _⟩, ⟨by exact lB HB.out⟩⟩
 case rest =>
  clear bq
  try clear c1
  try clear p2
  try clear c4
  try clear aY
  obtain ⟨kq, a7, rfl, HA, bL, HB⟩ := hcut
  cases kq with
  | zero => exact absurd HA.out (by simp [kern_Parse.j0])
  | succ aI =>
   have H := HA.out
   clear HA
   simp only [kern_Parse.j0] at H
   by_cases c5 : a7 = true
   ·subst c5
    have H1 : (some (([] : List (S41)), 1)) = some (r1, r2) := by rw [if_pos rfl] at H; exact H
    clear H
    have H := H1
    clear H1
    simp only [Option.some.injEq, Prod.mk.injEq] at H
    obtain ⟨rfl, rfl⟩ := H
    go_wp2
    go_ret2
    exact ⟨_, by first | rfl | (simp [errW_none, errW_some] <;> rfl) | (simp [*, errW_none, errW_some] <;> rfl), by first | exact Kd.R_nil _ _ _ _ _ | exact Kd.N_nil _ _ _ _ _ | exact Kd.V_nil _ _ _ _ _ | exact Kd.Q_nil _ _ _ _ _ | exact Kd.S_nil _ _ _ _ _, by exact lB HB.out⟩
   ·replace c5 := Bool.eq_false_iff.mpr c5
    subst c5
    have H1 : (if (a0.size : Int) < 18 then (some (([] : List (S41)), 3)) else ((octet_U16.f aI a0 10).bind fun aQ => (if (wrap64 (aQ.1)) > 4096 then (some (([] : List (S41)), 6)) else (if 0 ≤ 18 then (if 18 ≤ (a0.size : Int) then ((kern_ahead.f aI (wrap64 (aQ.1))).bind fun aE => (if (a0.extract 0 18).toList = aE.toList then (if (a0.size : Int) < (wrap64 (18 + (wrap64 (6 * (wrap64 (aQ.1)))))) then (some (([] : List (S41)), 3)) else ((octet_New.f a0).bind fun aw => ((octet_Reader_Skip.f aw.1 aw.2.1 aw.2.2 18).bind fun am => (kern_Parse.l0 aI a1 ([] : List (S41)) (wrap64 (aQ.1)) 0 am.1 am.2.1 am.2.2)))) else (some (([] : List (S41)), 4)))) else (none)) else (none))))) = some (r1, r2) := by rw [if_neg (show ¬ (false = true) by decide)] at H; exact H
    clear H
    have H := H1
    clear H1
    by_cases c6 : (a0.size : Int) < 18
    ·rw [if_pos c6] at H
     have br : decide ((a0.size : Int) < 18) = true := decide_eq_true c6
     have bs : decide (a0.size < 18) = true := decide_eq_true (by omega)
     clear c6
     simp only [Option.some.injEq, Prod.mk.injEq] at H
     obtain ⟨rfl, rfl⟩ := H
     go_wp2
     go_ret2
     exact ⟨_, by first | rfl | (simp [errW_none, errW_some] <;> rfl) | (simp [*, errW_none, errW_some] <;> rfl), by first | exact Kd.R_nil _ _ _ _ _ | exact Kd.N_nil _ _ _ _ _ | exact Kd.V_nil _ _ _ _ _ | exact Kd.Q_nil _ _ _ _ _ | exact Kd.S_nil _ _ _ _ _, by exact lB HB.out⟩
    ·rw [if_neg c6] at H
     have br : decide ((a0.size : Int) < 18) = false := decide_eq_false c6
     have bs : decide (a0.size < 18) = false := decide_eq_false (by omega)
     clear c6
     replace H := Option.bind_eq_some_iff.mp H
     obtain ⟨⟨aj, a9⟩, A70, H⟩ := H
     replace H : (if (wrap64 (aj)) > 4096 then (some (([] : List (S41)), 6)) else (if 0 ≤ 18 then (if 18 ≤ (a0.size : Int) then ((kern_ahead.f aI (wrap64 (aj))).bind fun aE => (if (a0.extract 0 18).toList = aE.toList then (if (a0.size : Int) < (wrap64 (18 + (wrap64 (6 * (wrap64 (aj)))))) then (some (([] : List (S41)), 3)) else ((octet_New.f a0).bind fun aw => ((octet_Reader_Skip.f aw.1 aw.2.1 aw.2.2 18).bind fun am => (kern_Parse.l0 aI a1 ([] : List (S41)) (wrap64 (aj)) 0 am.1 am.2.1 am.2.2)))) else (some (([] : List (S41)), 4)))) else (none)) else (none))) = some (r1, r2) := H
     have A7 := Aside0.mk A70
     clear A70
     by_cases c8 : (wrap64 (aj)) > 4096
     ·rw [if_pos c8] at H
      have bu : decide (4096 < (wrap64 (aj))) = true := decide_eq_true c8
      clear c8
      simp only [Option.some.injEq, Prod.mk.injEq] at H
      obtain ⟨rfl, rfl⟩ := H
      go_wp2_with (first | ((with_reducible refine gate_callee (f := 29) rfl ?_); refine goesL_ (some 26) rfl rfl Try.func29 (by kernel_rfl) rfl #[.string a0, .int .i64 10] rfl (by (try simp only [List.map_toArray, List.map_cons, List.map_nil]); first | done | rfl | (simp only [List.length_drop, List.length_take]; rfl)) ?_; (with_reducible refine (octet_U16.calls aI a0 10 aj a9 _ A7.out).mono ?_); rintro e w' ⟨rfl, ⟨nd, rfl⟩⟩; refine ⟨_, rfl, ?_⟩))
      go_ret2
      exact ⟨_, by first | rfl | (simp [errW_none, errW_some] <;> rfl) | (simp [*, errW_none, errW_some] <;> rfl), by first | exact Kd.R_nil _ _ _ _ _ | exact Kd.N_nil _ _ _ _ _ | exact Kd.V_nil _ _ _ _ _ | exact Kd.Q_nil _ _ _ _ _ | exact Kd.S_nil _ _ _ _ _, by exact lB HB.out⟩
     ·rw [if_neg c8] at H
      have bu : decide (4096 < (wrap64 (aj))) = false := decide_eq_false c8
      clear c8
      by_cases c9 : 0 ≤ 18
      ·rw [if_pos c9] at H
       have bM := eq_true c9
       have bN : decide (0 ≤ 18) = true := decide_eq_true c9
       clear c9
       by_cases c10 : 18 ≤ (a0.size : Int)
       ·rw [if_pos c10] at H
        have bG := eq_true c10
        have bH : decide (18 ≤ (a0.size : Int)) = true := decide_eq_true c10
        clear c10
        replace H := Option.bind_eq_some_iff.mp H
        obtain ⟨aE, A110, H⟩ := H
        replace H : (if (a0.extract 0 18).toList = aE.toList then (if (a0.size : Int) < (wrap64 (18 + (wrap64 (6 * (wrap64 (aj)))))) then (some (([] : List (S41)), 3)) else ((octet_New.f a0).bind fun aw => ((octet_Reader_Skip.f aw.1 aw.2.1 aw.2.2 18).bind fun am => (kern_Parse.l0 aI a1 ([] : List (S41)) (wrap64 (aj)) 0 am.1 am.2.1 am.2.2)))) else (some (([] : List (S41)), 4))) = some (r1, r2) := H
        have A11 := Aside0.mk A110
        clear A110
        by_cases c12 : (a0.extract 0 18).toList = aE.toList
        ·rw [if_pos c12] at H
         have bg : ((a0.extract 0 18).toList == aE.toList) = true := beq_iff_eq.mpr c12
         have bh : ((a0.extract 0 18).toList != aE.toList) = false := bne_eq_false_iff_eq.mpr c12
         clear c12
         by_cases c13 : (a0.size : Int) < (wrap64 (18 + (wrap64 (6 * (wrap64 (aj))))))
         ·rw [if_pos c13] at H
          have bi : decide ((a0.size : Int) < (wrap64 (18 + (wrap64 (6 * (wrap64 (aj))))))) = true := decide_eq_true c13
          clear c13
          simp only [Option.some.injEq, Prod.mk.injEq] at H
          obtain ⟨rfl, rfl⟩ := H
          try go_wp2_with (first | ((with_reducible refine gate_callee (f := 29) rfl ?_); refine goesL_ (some 26) rfl rfl Try.func29 (by kernel_rfl) rfl #[.string a0, .int .i64 10] rfl (by (try simp only [List.map_toArray, List.map_cons, List.map_nil]); first | done | rfl | (simp only [List.length_drop, List.length_take]; rfl)) ?_; (with_reducible refine (octet_U16.calls aI a0 10 aj a9 _ A7.out).mono ?_); rintro e w' ⟨rfl, ⟨nd, rfl⟩⟩; refine ⟨_, rfl, ?_⟩))
          (try (rw [drewN_self wc]; generalize hq_ : World.drewN wc _ = wc; have ac : Aside0 (Below w.heap.size w wc) := ⟨by rw [← hq_]; exact (by exact lB HB.out)⟩; clear HB hq_; have HB := ac; clear ac))
          have ac := Aside0.mk (below_drew1 HB.out)
          clear HB
          have HB := ac
          clear ac
          refine start_ (n := 6) (S := fun w' => True) (ds := []) #[false, false, false, false, false, false] (by kernel_rfl) rfl rfl trivial (fun hHeld => ?_)
          generalize wc.drew = cU at HB hHeld ⊢
          refine pure_ (i := 0) (N := some 35) (v := ?_) (a' := ?_) #[true, false, false, false, false, false] rfl rfl (by kernel_rfl) (fun _ _ _ h => h) (Or.inl ⟨by rfl, ?_⟩) ?_ ?_
          rotate_left
          ·intro w'
           go_simp
           with_reducible rfl
          rotate_left
          ·exact pA
          refine pure_ (i := 1) (N := some 36) (v := ?_) (a' := ?_) #[true, true, false, false, false, false] rfl rfl (by kernel_rfl) (fun _ _ _ h => h) (Or.inl ⟨by rfl, ?_⟩) ?_ ?_
          rotate_left
          ·intro w'
           go_simp
           with_reducible rfl
          rotate_left
          ·exact pA
          refine pure_ (i := 2) (N := some 37) (v := ?_) (a' := ?_) #[true, true, true, false, false, false] rfl rfl (by kernel_rfl) (fun _ _ _ h => h) (Or.inl ⟨by rfl, ?_⟩) ?_ ?_
          rotate_left
          ·intro w'
           go_simp
           with_reducible rfl
          rotate_left
          ·exact pA
          refine one_ (i := 3) (N := some 38) #[true, true, true, true, false, false] rfl rfl (by kernel_rfl) (by decide) (fun K hK => ?_)
          refine goes_ Try.func20 (by kernel_rfl) rfl #[.int .i64 (wrap64 (aj))] (by rfl) rfl rfl (by (try simp only [List.map_toArray, List.map_cons, List.map_nil]); first | done | rfl | (simp only [List.length_drop, List.length_take]; rfl)) ?_
          with_reducible refine (kern_ahead.calls aI (wrap64 (aj)) aE _ A11.out).mono ?_
          rintro e cV ⟨rfl, hb⟩
          refine ⟨_, rfl, ?_⟩
          have ac := Aside0.mk (below_step (by exact lB HB.out) hb)
          clear HB
          have HB := ac
          clear ac
          (try clear hb)
          (try clear aN)
          (try clear hk)
          (try clear hi)
          refine hK.out _ _ trivial (fun hHeld => ?_)
          clear hK K
          refine norm_ (a' := ?_) ?_ ?_
          rotate_left
          ·show Act.put _ (some 38) _ = _
           exact pA
          refine pure_ (i := 4) (N := some 39) (v := ?_) (a' := ?_) #[true, true, true, true, true, false] rfl rfl (by kernel_rfl) (fun _ _ _ h => h) (Or.inl ⟨by rfl, ?_⟩) ?_ ?_
          rotate_left
          ·intro w'
           go_simp
           with_reducible rfl
          rotate_left
          ·exact pA
          refine pure_ (i := 5) (N := some 34) (v := ?_) (a' := ?_) #[true, true, true, true, true, true] rfl rfl (by kernel_rfl) (fun _ _ _ h => h) (Or.inl ⟨by rfl, ?_⟩) ?_ ?_
          rotate_left
          ·intro w'
           go_simp
           with_reducible rfl
          rotate_left
          ·exact pA
          refine done_ (by kernel_rfl) ?_
          try go_wp2
          go_ret2
          exact ⟨_, by first | rfl | (simp [errW_none, errW_some] <;> rfl) | (simp [*, errW_none, errW_some] <;> rfl), by first | exact Kd.R_nil _ _ _ _ _ | exact Kd.N_nil _ _ _ _ _ | exact Kd.V_nil _ _ _ _ _ | exact Kd.Q_nil _ _ _ _ _ | exact Kd.S_nil _ _ _ _ _, by exact lB HB.out⟩
         ·rw [if_neg c13] at H
          have bi : decide ((a0.size : Int) < (wrap64 (18 + (wrap64 (6 * (wrap64 (aj))))))) = false := decide_eq_false c13
          clear c13
          replace H := Option.bind_eq_some_iff.mp H
          obtain ⟨⟨ba, bb, bc⟩, A160, H⟩ := H
          replace H : ((octet_Reader_Skip.f ba bb bc 18).bind fun am => (kern_Parse.l0 aI a1 ([] : List (S41)) (wrap64 (aj)) 0 am.1 am.2.1 am.2.2)) = some (r1, r2) := H
          have A16 := Aside0.mk A160
          clear A160
          replace H := Option.bind_eq_some_iff.mp H
          obtain ⟨⟨bd, be, bf⟩, A170, H⟩ := H
          replace H : (kern_Parse.l0 aI a1 ([] : List (S41)) (wrap64 (aj)) 0 bd be bf) = some (r1, r2) := H
          have A17 := Aside0.mk A170
          clear A170
          have H' := Aside0.mk H
          clear H
          try go_wp2_with (first | ((with_reducible refine gate_callee (f := 29) rfl ?_); refine goesL_ (some 26) rfl rfl Try.func29 (by kernel_rfl) rfl #[.string a0, .int .i64 10] rfl (by (try simp only [List.map_toArray, List.map_cons, List.map_nil]); first | done | rfl | (simp only [List.length_drop, List.length_take]; rfl)) ?_; (with_reducible refine (octet_U16.calls aI a0 10 aj a9 _ A7.out).mono ?_); rintro e w' ⟨rfl, ⟨nd, rfl⟩⟩; refine ⟨_, rfl, ?_⟩))
          (try (rw [drewN_self wc]; generalize hq_ : World.drewN wc _ = wc; have ac : Aside0 (Below w.heap.size w wc) := ⟨by rw [← hq_]; exact (by exact lB HB.out)⟩; clear HB hq_; have HB := ac; clear ac))
          have ac := Aside0.mk (below_drew1 HB.out)
          clear HB
          have HB := ac
          clear ac
          refine start_ (n := 6) (S := fun w' => True) (ds := []) #[false, false, false, false, false, false] (by kernel_rfl) rfl rfl trivial (fun hHeld => ?_)
          generalize wc.drew = cW at HB hHeld ⊢
          refine pure_ (i := 0) (N := some 35) (v := ?_) (a' := ?_) #[true, false, false, false, false, false] rfl rfl (by kernel_rfl) (fun _ _ _ h => h) (Or.inl ⟨by rfl, ?_⟩) ?_ ?_
          rotate_left
          ·intro w'
           go_simp
           with_reducible rfl
          rotate_left
          ·exact pA
          refine pure_ (i := 1) (N := some 36) (v := ?_) (a' := ?_) #[true, true, false, false, false, false] rfl rfl (by kernel_rfl) (fun _ _ _ h => h) (Or.inl ⟨by rfl, ?_⟩) ?_ ?_
          rotate_left
          ·intro w'
           go_simp
           with_reducible rfl
          rotate_left
          ·exact pA
          refine pure_ (i := 2) (N := some 37) (v := ?_) (a' := ?_) #[true, true, true, false, false, false] rfl rfl (by kernel_rfl) (fun _ _ _ h => h) (Or.inl ⟨by rfl, ?_⟩) ?_ ?_
          rotate_left
          ·intro w'
           go_simp
           with_reducible rfl
          rotate_left
          ·exact pA
          refine one_ (i := 3) (N := some 38) #[true, true, true, true, false, false] rfl rfl (by kernel_rfl) (by decide) (fun K hK => ?_)
          refine goes_ Try.func20 (by kernel_rfl) rfl #[.int .i64 (wrap64 (aj))] (by rfl) rfl rfl (by (try simp only [List.map_toArray, List.map_cons, List.map_nil]); first | done | rfl | (simp only [List.length_drop, List.length_take]; rfl)) ?_
          with_reducible refine (kern_ahead.calls aI (wrap64 (aj)) aE _ A11.out).mono ?_
          rintro e cX ⟨rfl, hb⟩
          refine ⟨_, rfl, ?_⟩
          have ac := Aside0.mk (below_step (by exact lB HB.out) hb)
          clear HB
          have HB := ac
          clear ac
          (try clear hb)
          (try clear aN)
          (try clear hk)
          (try clear hi)
          refine hK.out _ _ trivial (fun hHeld => ?_)
          clear hK K
          refine norm_ (a' := ?_) ?_ ?_
          rotate_left
          ·show Act.put _ (some 38) _ = _
           exact pA
          refine pure_ (i := 4) (N := some 39) (v := ?_) (a' := ?_) #[true, true, true, true, true, false] rfl rfl (by kernel_rfl) (fun _ _ _ h => h) (Or.inl ⟨by rfl, ?_⟩) ?_ ?_
          rotate_left
          ·intro w'
           go_simp
           with_reducible rfl
          rotate_left
          ·exact pA
          refine pure_ (i := 5) (N := some 34) (v := ?_) (a' := ?_) #[true, true, true, true, true, true] rfl rfl (by kernel_rfl) (fun _ _ _ h => h) (Or.inl ⟨by rfl, ?_⟩) ?_ ?_
          rotate_left
          ·intro w'
           go_simp
           with_reducible rfl
          rotate_left
          ·exact pA
          refine done_ (by kernel_rfl) ?_
          try go_wp2_with (first | ((with_reducible refine gate_callee (f := 30) rfl ?_); refine goesL_ (some 48) rfl rfl Try.func30 (by kernel_rfl) rfl #[.string a0] rfl (by (try simp only [List.map_toArray, List.map_cons, List.map_nil]); first | done | rfl | (simp only [List.length_drop, List.length_take]; rfl)) ?_; (with_reducible refine (octet_New.calls a0 ba bb bc w _ ?side1 A16.out).mono ?_); (case side1 => exact lB HB.out); rintro e cY ⟨g163, rfl, hi, hb, aN⟩; refine ⟨_, rfl, ?_⟩; have ac := Aside0.mk (hb); have ag := Aside0.mk (hi); clear HB; have HB := ac; have HI163 := ag; clear ac ag; (try clear hb); (try clear aN); (try clear hk); (try clear hi)) | ((with_reducible refine gate_callee (f := 31) rfl ?_); refine goesL_ (some 50) rfl rfl Try.func31 (by kernel_rfl) rfl #[.pointer (some ⟨g163, 0, none⟩), .int .i64 18] rfl (by (try simp only [List.map_toArray, List.map_cons, List.map_nil]); first | done | rfl | (simp only [List.length_drop, List.length_take]; rfl)) ?_; (with_reducible refine (octet_Reader_Skip.calls g163 ba bb bc 18 bd be bf w _ ?side1 ?side2 A17.out).mono ?_); (case side1 => repeat (first | (with_reducible first | exact HI163.out | apply IsS86.alloc | apply IsS86.drewN | apply IsS86.drew | apply IsS86.set_0 | apply IsS86.set_1 | apply IsS86.set_2) | exact HI163.out)); (case side2 => repeat (first | (with_reducible first | exact HB.out | apply below_alloc | apply pw_below_drewN | apply below_drew1 | refine below_set ?_ (IsS86.ge HI163.out)) | exact HB.out)); rintro e cZ ⟨rfl, hi, hb, hk⟩; refine ⟨_, rfl, ?_⟩; have ac := Aside0.mk (hb); have ag := Aside0.mk (hi); clear HB; clear HI163; have HB := ac; have HI163 := ag; clear ac ag; (try clear hb); (try clear aN); (try clear hk); (try clear hi)))
          go_loopg [10, 52] aI (fun kq v10 v52 w' => ∃ (az : List (S41)) (al : Int) (ao : ByteArray) (ap : Int) (aq : Bool), v52 = .int .i64 al ∧ Aside0 (kern_Parse.l0 kq a1 az (wrap64 (aj)) al ao ap aq = some (r1, r2)) ∧ Aside0 (kq ≤ aI) ∧ Aside0 (Kd.R k41 41 w' w.heap.size (fun _ => True) v10 az) ∧ Aside0 (IsS86 w w' g163 ao ap aq) ∧ Aside0 (Below w.heap.size w w'))
          case atStart => exact ⟨(([] : List (S41))), (0), (bd), (be), (bf), (by first | rfl | (simp; done) | (simp [*]; done)), H', ⟨Nat.le_refl _⟩, ⟨by first | exact Kd.R_nil _ _ _ _ _ | exact Kd.N_nil _ _ _ _ _ | exact Kd.V_nil _ _ _ _ _ | exact Kd.Q_nil _ _ _ _ _ | exact Kd.S_nil _ _ _ _ _⟩, ⟨by repeat (first | (with_reducible first | exact HI163.out | apply IsS86.alloc | apply IsS86.drewN | apply IsS86.drew | apply IsS86.set_0 | apply IsS86.set_1 | apply IsS86.set_2) | exact HI163.out)⟩, ⟨by repeat (first | (with_reducible first | exact HB.out | apply below_alloc | apply pw_below_drewN | apply below_drew1 | refine below_set ?_ (IsS86.ge HI163.out)) | exact HB.out)⟩⟩
          case round =>
           clear H'
           try clear c1
           try clear c2
           try clear p2
           try clear c3
           try clear c4
           try clear aY
           try clear c5
           try clear c6
           try clear br
           try clear bs
           try clear p6
           try clear c8
           try clear bu
           try clear c9
           try clear bM
           try clear bN
           try clear c10
           try clear bG
           try clear bH
           try clear c12
           try clear bg
           try clear bh
           try clear c13
           try clear bi
           try clear c20
           try clear p2
           obtain ⟨az, al, ao, ap, aq, rfl, HA, HK2, ad, HI163, HB⟩ := hrel
           cases gk with
           | zero => exact absurd HA.out (by simp [kern_Parse.l0])
           | succ k2 =>
            have H := HA.out
            clear HA
            simp only [kern_Parse.l0] at H
            by_cases c22 : al < (wrap64 (aj))
            ·rw [if_pos c22] at H
             have bI : decide (al < (wrap64 (aj))) = true := decide_eq_true c22
             clear c22
             replace H := Option.bind_eq_some_iff.mp H
             obtain ⟨⟨ae, aT, aU, aV⟩, A230, H⟩ := H
             replace H : ((octet_Reader_U16.f k2 aT aU aV).bind fun aG => ((octet_Reader_I16.f k2 aG.2.1 aG.2.2.1 aG.2.2.2).bind fun ay => (if az.length < 5864062014805 then ((some (az ++ [(⟨wrap64 (ae), wrap64 (aG.1), wrap64 (ay.1)⟩ : S41)] : List (S41))).bind fun ar => (if (mx (wrap64 (ae)) (wrap64 (aG.1))) ≥ a1 then (some (([] : List (S41)), 4)) else ((kern_rises.f k2 ar al).bind fun aH => (if aH = true then (kern_Parse.l0 k2 a1 ar (wrap64 (aj)) (wrap64 (al + 1)) ay.2.1 ay.2.2.1 ay.2.2.2) else (some (([] : List (S41)), 4)))))) else (none)))) = some (r1, r2) := H
             have A23 := Aside0.mk A230
             clear A230
             replace H := Option.bind_eq_some_iff.mp H
             obtain ⟨⟨af, aA, aC, aD⟩, A240, H⟩ := H
             replace H : ((octet_Reader_I16.f k2 aA aC aD).bind fun ay => (if az.length < 5864062014805 then ((some (az ++ [(⟨wrap64 (ae), wrap64 (af), wrap64 (ay.1)⟩ : S41)] : List (S41))).bind fun ar => (if (mx (wrap64 (ae)) (wrap64 (af))) ≥ a1 then (some (([] : List (S41)), 4)) else ((kern_rises.f k2 ar al).bind fun aH => (if aH = true then (kern_Parse.l0 k2 a1 ar (wrap64 (aj)) (wrap64 (al + 1)) ay.2.1 ay.2.2.1 ay.2.2.2) else (some (([] : List (S41)), 4)))))) else (none))) = some (r1, r2) := H
             have A24 := Aside0.mk A240
             clear A240
             replace H := Option.bind_eq_some_iff.mp H
             obtain ⟨⟨ak, aJ, aK, aM⟩, A250, H⟩ := H
             replace H : (if az.length < 5864062014805 then ((some (az ++ [(⟨wrap64 (ae), wrap64 (af), wrap64 (ak)⟩ : S41)] : List (S41))).bind fun ar => (if (mx (wrap64 (ae)) (wrap64 (af))) ≥ a1 then (some (([] : List (S41)), 4)) else ((kern_rises.f k2 ar al).bind fun aH => (if aH = true then (kern_Parse.l0 k2 a1 ar (wrap64 (aj)) (wrap64 (al + 1)) aJ aK aM) else (some (([] : List (S41)), 4)))))) else (none)) = some (r1, r2) := H
             have A25 := Aside0.mk A250
             clear A250
             by_cases c26 : az.length < 5864062014805
             ·rw [if_pos c26] at H
              have LMc26 := Aside0.mk c26
              clear c26
              obtain ⟨ar, a2⟩ : ∃ y_ : List (S41), y_ = (az ++ [(⟨wrap64 (ae), wrap64 (af), wrap64 (ak)⟩ : S41)]) := ⟨_, rfl⟩
              replace H : (if (mx (wrap64 (ae)) (wrap64 (af))) ≥ a1 then (some (([] : List (S41)), 4)) else ((kern_rises.f k2 ar al).bind fun aH => (if aH = true then (kern_Parse.l0 k2 a1 ar (wrap64 (aj)) (wrap64 (al + 1)) aJ aK aM) else (some (([] : List (S41)), 4))))) = some (r1, r2) := by first | (rw [a2]; with_reducible exact H) | (have H2_ := (Option.bind_some _ _).symm.trans H; rw [a2]; with_reducible exact H2_) | (have H2_ := (Option.bind_some _ _).symm.trans H; with_reducible exact H2_) | with_reducible exact H | (rw [a2]; exact H) | exact H
              have Ny180 := Aside0.mk a2
              clear a2
              obtain ⟨a8, aR⟩ : ∃ j_ : Int, (mx (wrap64 (ae)) (wrap64 (af))) = j_ := ⟨_, rfl⟩
              replace H : (if (a8) ≥ a1 then (some (([] : List (S41)), 4)) else ((kern_rises.f k2 ar al).bind fun aH => (if aH = true then (kern_Parse.l0 k2 a1 ar (wrap64 (aj)) (wrap64 (al + 1)) aJ aK aM) else (some (([] : List (S41)), 4))))) = some (r1, r2) := by first | (rw [aR] at H; exact H) | (simp only [aR] at H ⊢; exact H)
              (try rw [aR] at A23)
              (try rw [aR] at A24)
              (try rw [aR] at A25)
              have cI : (if (wrap64 (ae)) < (wrap64 (af)) then (wrap64 (af)) else (wrap64 (ae))) = a8 := aR
              by_cases c28 : (a8) ≥ a1
              ·rw [if_pos c28] at H
               have bJ : decide (a1 ≤ (a8)) = true := decide_eq_true c28
               clear c28
               simp only [Option.some.injEq, Prod.mk.injEq] at H
               obtain ⟨rfl, rfl⟩ := H
               go_wp2_with (first | ((with_reducible refine gate_callee (f := 32) rfl ?_); refine goesL_ (some 56) rfl rfl Try.func32 (by kernel_rfl) rfl #[.pointer (some ⟨g163, 0, none⟩)] rfl (by (try simp only [List.map_toArray, List.map_cons, List.map_nil]); first | done | rfl | (simp only [List.length_drop, List.length_take]; rfl)) ?_; (with_reducible refine (octet_Reader_U16.calls k2 g163 ao ap aq ae aT aU aV w _ ?side1 ?side2 A23.out).mono ?_); (case side1 => repeat (first | (with_reducible first | exact HI163.out | apply IsS86.alloc | apply IsS86.drewN | apply IsS86.drew | apply IsS86.set_0 | apply IsS86.set_1 | apply IsS86.set_2) | exact HI163.out)); (case side2 => repeat (first | (with_reducible first | exact HB.out | apply below_alloc | apply pw_below_drewN | apply below_drew1 | refine below_set ?_ (IsS86.ge HI163.out)) | exact HB.out)); rintro e c0 ⟨rfl, hi, hb, hk⟩; refine ⟨_, rfl, ?_⟩; have ac := Aside0.mk (Kd.R_mono (Kd.R_keep (IsS86.apart (show IsS86 w _ g163 ao ap aq from by repeat (first | (with_reducible first | exact HI163.out | apply IsS86.alloc | apply IsS86.drewN | apply IsS86.drew | apply IsS86.set_0 | apply IsS86.set_1 | apply IsS86.set_2) | exact HI163.out)) (by (with_reducible repeat (first | apply Kd.R_alloc | apply Kd.R_drewN | apply Kd.R_drew)); exact ad.out) (by decide)) hk (fun _ h => h.2)) (fun _ h => h.1)); have ag := Aside0.mk (hb); have ai := Aside0.mk (hi); clear ad; clear HB; clear HI163; have ad := ac; have HB := ag; have HI163 := ai; clear ac ag ai; (try clear hb); (try clear aN); (try clear hk); (try clear hi)) | ((with_reducible refine gate_callee (f := 32) rfl ?_); refine goesL_ (some 59) rfl rfl Try.func32 (by kernel_rfl) rfl #[.pointer (some ⟨g163, 0, none⟩)] rfl (by (try simp only [List.map_toArray, List.map_cons, List.map_nil]); first | done | rfl | (simp only [List.length_drop, List.length_take]; rfl)) ?_; (with_reducible refine (octet_Reader_U16.calls k2 g163 aT aU aV af aA aC aD w _ ?side1 ?side2 A24.out).mono ?_); (case side1 => repeat (first | (with_reducible first | exact HI163.out | apply IsS86.alloc | apply IsS86.drewN | apply IsS86.drew | apply IsS86.set_0 | apply IsS86.set_1 | apply IsS86.set_2) | exact HI163.out)); (case side2 => repeat (first | (with_reducible first | exact HB.out | apply below_alloc | apply pw_below_drewN | apply below_drew1 | refine below_set ?_ (IsS86.ge HI163.out)) | exact HB.out)); rintro e c7 ⟨rfl, hi, hb, hk⟩; refine ⟨_, rfl, ?_⟩; have ac := Aside0.mk (Kd.R_mono (Kd.R_keep (IsS86.apart (show IsS86 w _ g163 aT aU aV from by repeat (first | (with_reducible first | exact HI163.out | apply IsS86.alloc | apply IsS86.drewN | apply IsS86.drew | apply IsS86.set_0 | apply IsS86.set_1 | apply IsS86.set_2) | exact HI163.out)) (by (with_reducible repeat (first | apply Kd.R_alloc | apply Kd.R_drewN | apply Kd.R_drew)); exact ad.out) (by decide)) hk (fun _ h => h.2)) (fun _ h => h.1)); have ag := Aside0.mk (hb); have ai := Aside0.mk (hi); clear ad; clear HB; clear HI163; have ad := ac; have HB := ag; have HI163 := ai; clear ac ag ai; (try clear hb); (try clear aN); (try clear hk); (try clear hi)) | ((with_reducible refine gate_dst (N := 12) rfl ?_); refine box_event ?hg (N := 12) ?hd (cs := #[.int .i64 0, .int .i64 0, .int .i64 0]) (t := 41) ?hr ?_; (case hd => rfl); (case hg => rfl); (case hr => first | (go_simp; done) | (go_simp; rfl)); intro ab hg bv hbox hb; have ac := Aside0.mk (Kd.R_below (Kd.R_elderB (by (with_reducible repeat (first | apply Kd.R_alloc | apply Kd.R_drewN | apply Kd.R_drew)); exact ad.out) ab (Nat.le_of_eq hg.symm)) hb); have ag := Aside0.mk (IsS86.below (by repeat (first | (with_reducible first | exact HI163.out | apply IsS86.alloc | apply IsS86.drewN | apply IsS86.drew | apply IsS86.set_0 | apply IsS86.set_1 | apply IsS86.set_2) | exact HI163.out)) hb); have ai := Aside0.mk (below_step (by repeat (first | (with_reducible first | exact HB.out | apply below_alloc | apply pw_below_drewN | apply below_drew1 | refine below_set ?_ (IsS86.ge HI163.out)) | exact HB.out)) hb); have an := Aside0.mk (hbox); have a3 := Aside0.mk ((by rw [hg]; exact (below_size (by repeat (first | (with_reducible first | exact HB.out | apply below_alloc | apply pw_below_drewN | apply below_drew1 | refine below_set ?_ (IsS86.ge HI163.out)) | exact HB.out))) : w.heap.size ≤ ab)); have a4 := Aside0.mk ((by rw [hg]; exact (below_size (by repeat (first | (with_reducible first | exact HB.out | apply below_alloc | apply pw_below_drewN | apply below_drew1 | refine below_set ?_ (IsS86.ge HI163.out)) | exact HB.out))) : w.heap.size ≤ ab)); have a5 := Aside0.mk ((by rw [hg]; exact Nat.ne_of_lt (IsS86.lt (show IsS86 w _ g163 aA aC aD from by repeat (first | (with_reducible first | exact HI163.out | apply IsS86.alloc | apply IsS86.drewN | apply IsS86.drew | apply IsS86.set_0 | apply IsS86.set_1 | apply IsS86.set_2) | exact HI163.out))) : g163 ≠ ab)); have a6 := Aside0.mk ((by rw [hg]; exact Nat.ne_of_gt (IsS86.lt (show IsS86 w _ g163 aA aC aD from by repeat (first | (with_reducible first | exact HI163.out | apply IsS86.alloc | apply IsS86.drewN | apply IsS86.drew | apply IsS86.set_0 | apply IsS86.set_1 | apply IsS86.set_2) | exact HI163.out))) : ab ≠ g163)); clear ad; clear HI163; clear HB; have ad := ac; have HI163 := ag; have HB := ai; have aa := an; have bj := a3; have au := a4; have ah := a5; have av := a6; clear ac ag ai an a3 a4 a5 a6; clear hb hbox hg; have cJ := av.out; have cK := ah.out; have bO : bv.cell? ⟨ab, 0, none⟩ = some (.int .i64 0) := (blk_cell aa.out 0).trans rfl; have bP : bv.cell? ⟨ab, 1, none⟩ = some (.int .i64 0) := (blk_cell aa.out 1).trans rfl; have bQ : bv.cell? ⟨ab, 2, none⟩ = some (.int .i64 0) := (blk_cell aa.out 2).trans rfl; have bR := blk_frozen aa.out 0; have bS := blk_frozen aa.out 1; have bT := blk_frozen aa.out 2) | ((with_reducible refine gate_callee (f := 33) rfl ?_); refine goesL_ (some 63) rfl rfl Try.func33 (by kernel_rfl) rfl #[.pointer (some ⟨g163, 0, none⟩)] rfl (by (try simp only [List.map_toArray, List.map_cons, List.map_nil]); first | done | rfl | (simp only [List.length_drop, List.length_take]; rfl)) ?_; (with_reducible refine (octet_Reader_I16.calls k2 g163 aA aC aD ak aJ aK aM w _ ?side1 ?side2 A25.out).mono ?_); (case side1 => repeat (first | (with_reducible first | exact HI163.out | apply IsS86.alloc | apply IsS86.drewN | apply IsS86.drew | apply IsS86.set_0 | apply IsS86.set_1 | apply IsS86.set_2 | refine IsS86.far ?_ ah.out _) | exact HI163.out)); (case side2 => repeat (first | (with_reducible first | exact HB.out | apply below_alloc | apply pw_below_drewN | apply below_drew1 | refine below_set ?_ (IsS86.ge HI163.out) | refine below_set ?_ au.out) | exact HB.out)); rintro e bw ⟨rfl, hi, hb, hk⟩; refine ⟨_, rfl, ?_⟩; have ac := Aside0.mk (Kd.R_mono (Kd.R_keep (IsS86.apart (show IsS86 w _ g163 aA aC aD from by repeat (first | (with_reducible first | exact HI163.out | apply IsS86.alloc | apply IsS86.drewN | apply IsS86.drew | apply IsS86.set_0 | apply IsS86.set_1 | apply IsS86.set_2 | refine IsS86.far ?_ ah.out _) | exact HI163.out)) (by (with_reducible repeat (first | apply Kd.R_alloc | apply Kd.R_drewN | apply Kd.R_drew)); exact (Kd.R_mono (Kd.R_far (p := ⟨ab, 2, none⟩) (Kd.R_far (p := ⟨ab, 1, none⟩) (Kd.R_far (p := ⟨ab, 0, none⟩) (Kd.R_mono ad.out (fun k_ hk => (⟨hk, hk.2⟩ : _ ∧ k_ ≠ ab))) (fun _ hk => hk.2) (.int .i64 (wrap64 (ae)))) (fun _ hk => hk.2) (.int .i64 (wrap64 (af)))) (fun _ hk => hk.2) (.int .i64 0)) (fun _ h_ => h_.1))) (by decide)) hk (fun _ h => h.2)) (fun _ h => h.1)); have ag := Aside0.mk (KeepBut.blk hk (g' := ab) (o := .cells #[.int .i64 (wrap64 (ae)), .int .i64 (wrap64 (af)), .int .i64 0] 41 (0, 0)) (by refine kB ?_; refine blk_put (cs := #[.int .i64 (wrap64 (ae)), .int .i64 (wrap64 (af)), .int .i64 0]) ?_ 2 _ rfl; refine kB ?_; refine blk_put (cs := #[.int .i64 (wrap64 (ae)), .int .i64 0, .int .i64 0]) ?_ 1 _ rfl; refine kB ?_; refine blk_put (cs := #[.int .i64 0, .int .i64 0, .int .i64 0]) ?_ 0 _ rfl; refine kB ?_; exact aa.out) av.out (by simp)); have ai := Aside0.mk (hb); have an := Aside0.mk (hi); clear ad; clear aa; clear HB; clear HI163; have ad := ac; have aa := ag; have HB := ai; have HI163 := an; clear ac ag ai an; (try clear hb); (try clear aN); (try clear hk); (try clear hi); have bU : bw.cell? ⟨ab, 0, none⟩ = some (.int .i64 (wrap64 (ae))) := (blk_cell aa.out 0).trans rfl; have bV : bw.cell? ⟨ab, 1, none⟩ = some (.int .i64 (wrap64 (af))) := (blk_cell aa.out 1).trans rfl; have bW : bw.cell? ⟨ab, 2, none⟩ = some (.int .i64 0) := (blk_cell aa.out 2).trans rfl; have bX := blk_frozen aa.out 0; have bY := blk_frozen aa.out 1; have bZ := blk_frozen aa.out 2) | ((with_reducible refine gate_builtin (b := .append) (xs := #[.tmp 66, .tmp 68]) rfl ?_); at_builtin; refine Kd.R_append k41 (w0 := w) w.heap.size rfl (.tmp 66) (.tmp 68) 22 41 (.agg #[(.int .i64 0), (.int .i64 0), (.int .i64 0)]) 24 rfl Try.underlying22 info41 rfl (by decide) (by omega) u10 az (⟨wrap64 (ae), wrap64 (af), wrap64 (ak)⟩ : S41) [.int .i64 (wrap64 (ae)), .int .i64 (wrap64 (af)), .int .i64 (wrap64 (ak))] (fun k_ => k_ ≠ ab) (fun _ => False) rfl (by first | (go_simp; done) | (go_simp; rfl)) ?aP (fun _ hk => hk.elim) ?aF ?aO ?aB ?aS ?aL ?_; (case aP => exact k41_mkM _ _ _ (⟨wrap64 (ae), wrap64 (af), wrap64 (ak)⟩ : S41)); (case aB => exact (by repeat (first | (with_reducible first | exact HB.out | apply below_alloc | apply pw_below_drewN | apply below_drew1 | refine below_set ?_ (IsS86.ge HI163.out) | refine below_set ?_ au.out) | exact HB.out))); (case aF => exact (fun k_ hk => Kd.freshB (g := ab) (o := .cells #[.int .i64 (wrap64 (ae)), .int .i64 (wrap64 (af)), .int .i64 (wrap64 (ak))] 41 (0, 0)) (by refine kB ?_; refine blk_put (cs := #[.int .i64 (wrap64 (ae)), .int .i64 (wrap64 (af)), .int .i64 0]) ?_ 2 _ rfl; refine kB ?_; exact aa.out) k_ hk)); (case aO => exact (by (with_reducible repeat (first | apply Kd.R_alloc | apply Kd.R_drewN | apply Kd.R_drew)); exact Kd.R_mono (Kd.R_far (p := ⟨ab, 2, none⟩) (Kd.R_mono ad.out (fun k_ hk => (⟨hk, hk.2⟩ : _ ∧ k_ ≠ ab))) (fun _ hk => hk.2) (.int .i64 (wrap64 (ak)))) (fun _ hk => hk.1.2))); (case aS => exact (below_size (by repeat (first | (with_reducible first | exact HB.out | apply below_alloc | apply pw_below_drewN | apply below_drew1 | refine below_set ?_ (IsS86.ge HI163.out) | refine below_set ?_ au.out) | exact HB.out)))); (case aL => have := LMc26.out; omega); intro v181 bx ho hb hg hat; rw [← Ny180.out] at ho; have ac := Aside0.mk (IsS86.grown (show IsS86 w _ g163 aJ aK aM from by repeat (first | (with_reducible first | exact HI163.out | apply IsS86.alloc | apply IsS86.drewN | apply IsS86.drew | apply IsS86.set_0 | apply IsS86.set_1 | apply IsS86.set_2 | refine IsS86.far ?_ ah.out _) | exact HI163.out)) hg (IsS86.own_ne HI163.out ad.out (by decide))); have ag := Aside0.mk (blk_grown (g := ab) (o := .cells #[.int .i64 (wrap64 (ae)), .int .i64 (wrap64 (af)), .int .i64 (wrap64 (ak))] 41 (0, 0)) (by refine kB ?_; refine blk_put (cs := #[.int .i64 (wrap64 (ae)), .int .i64 (wrap64 (af)), .int .i64 0]) ?_ 2 _ rfl; refine kB ?_; exact aa.out) hg (Kd.R_away ad.out (fun _ hk => hk.2))); have ai := Aside0.mk (hb); have an := Aside0.mk (ho); clear HI163; clear aa; clear HB; clear ad; have HI163 := ac; have aa := ag; have HB := ai; have ax := an; clear ac ag ai an; clear ho hb hg hat; have b0 : bx.cell? ⟨ab, 0, none⟩ = some (.int .i64 (wrap64 (ae))) := (blk_cell aa.out 0).trans rfl; have b1 : bx.cell? ⟨ab, 1, none⟩ = some (.int .i64 (wrap64 (af))) := (blk_cell aa.out 1).trans rfl; have b2 : bx.cell? ⟨ab, 2, none⟩ = some (.int .i64 (wrap64 (ak))) := (blk_cell aa.out 2).trans rfl; have b3 := blk_frozen aa.out 0; have b4 := blk_frozen aa.out 1; have b5 := blk_frozen aa.out 2))
               go_ret2
               exact ⟨_, by first | rfl | (simp [errW_none, errW_some] <;> rfl) | (simp only [← aR]; first | rfl | (simp [errW_none, errW_some] <;> rfl)) | (simp [*, errW_none, errW_some] <;> rfl), by first | exact Kd.R_nil _ _ _ _ _ | exact Kd.N_nil _ _ _ _ _ | exact Kd.V_nil _ _ _ _ _ | exact Kd.Q_nil _ _ _ _ _ | exact Kd.S_nil _ _ _ _ _, by repeat (first | (with_reducible first | exact HB.out | apply below_alloc | apply pw_below_drewN | apply below_drew1 | refine below_set ?_ (IsS86.ge HI163.out) | refine below_set ?_ au.out) | exact HB.out)⟩
              ·rw [if_neg c28] at H
               have bJ : decide (a1 ≤ (a8)) = false := decide_eq_false c28
               clear c28
               replace H := Option.bind_eq_some_iff.mp H
               obtain ⟨aH, A380, H⟩ := H
               replace H : (if aH = true then (kern_Parse.l0 k2 a1 ar (wrap64 (aj)) (wrap64 (al + 1)) aJ aK aM) else (some (([] : List (S41)), 4))) = some (r1, r2) := H
               have A38 := Aside0.mk A380
               clear A380
               by_cases c39 : aH = true
               ·subst c39
                have H1 : (kern_Parse.l0 k2 a1 ar (wrap64 (aj)) (wrap64 (al + 1)) aJ aK aM) = some (r1, r2) := by rw [if_pos rfl] at H; exact H
                clear H
                have H := H1
                clear H1
                have H' := Aside0.mk H
                clear H
                go_wp2_with (first | ((with_reducible refine gate_callee (f := 32) rfl ?_); refine goesL_ (some 56) rfl rfl Try.func32 (by kernel_rfl) rfl #[.pointer (some ⟨g163, 0, none⟩)] rfl (by (try simp only [List.map_toArray, List.map_cons, List.map_nil]); first | done | rfl | (simp only [List.length_drop, List.length_take]; rfl)) ?_; (with_reducible refine (octet_Reader_U16.calls k2 g163 ao ap aq ae aT aU aV w _ ?side1 ?side2 A23.out).mono ?_); (case side1 => repeat (first | (with_reducible first | exact HI163.out | apply IsS86.alloc | apply IsS86.drewN | apply IsS86.drew | apply IsS86.set_0 | apply IsS86.set_1 | apply IsS86.set_2) | exact HI163.out)); (case side2 => repeat (first | (with_reducible first | exact HB.out | apply below_alloc | apply pw_below_drewN | apply below_drew1 | refine below_set ?_ (IsS86.ge HI163.out)) | exact HB.out)); rintro e da ⟨rfl, hi, hb, hk⟩; refine ⟨_, rfl, ?_⟩; have ac := Aside0.mk (Kd.R_mono (Kd.R_keep (IsS86.apart (show IsS86 w _ g163 ao ap aq from by repeat (first | (with_reducible first | exact HI163.out | apply IsS86.alloc | apply IsS86.drewN | apply IsS86.drew | apply IsS86.set_0 | apply IsS86.set_1 | apply IsS86.set_2) | exact HI163.out)) (by (with_reducible repeat (first | apply Kd.R_alloc | apply Kd.R_drewN | apply Kd.R_drew)); exact ad.out) (by decide)) hk (fun _ h => h.2)) (fun _ h => h.1)); have ag := Aside0.mk (hb); have ai := Aside0.mk (hi); clear ad; clear HB; clear HI163; have ad := ac; have HB := ag; have HI163 := ai; clear ac ag ai; (try clear hb); (try clear aN); (try clear hk); (try clear hi)) | ((with_reducible refine gate_callee (f := 32) rfl ?_); refine goesL_ (some 59) rfl rfl Try.func32 (by kernel_rfl) rfl #[.pointer (some ⟨g163, 0, none⟩)] rfl (by (try simp only [List.map_toArray, List.map_cons, List.map_nil]); first | done | rfl | (simp only [List.length_drop, List.length_take]; rfl)) ?_; (with_reducible refine (octet_Reader_U16.calls k2 g163 aT aU aV af aA aC aD w _ ?side1 ?side2 A24.out).mono ?_); (case side1 => repeat (first | (with_reducible first | exact HI163.out | apply IsS86.alloc | apply IsS86.drewN | apply IsS86.drew | apply IsS86.set_0 | apply IsS86.set_1 | apply IsS86.set_2) | exact HI163.out)); (case side2 => repeat (first | (with_reducible first | exact HB.out | apply below_alloc | apply pw_below_drewN | apply below_drew1 | refine below_set ?_ (IsS86.ge HI163.out)) | exact HB.out)); rintro e db ⟨rfl, hi, hb, hk⟩; refine ⟨_, rfl, ?_⟩; have ac := Aside0.mk (Kd.R_mono (Kd.R_keep (IsS86.apart (show IsS86 w _ g163 aT aU aV from by repeat (first | (with_reducible first | exact HI163.out | apply IsS86.alloc | apply IsS86.drewN | apply IsS86.drew | apply IsS86.set_0 | apply IsS86.set_1 | apply IsS86.set_2) | exact HI163.out)) (by (with_reducible repeat (first | apply Kd.R_alloc | apply Kd.R_drewN | apply Kd.R_drew)); exact ad.out) (by decide)) hk (fun _ h => h.2)) (fun _ h => h.1)); have ag := Aside0.mk (hb); have ai := Aside0.mk (hi); clear ad; clear HB; clear HI163; have ad := ac; have HB := ag; have HI163 := ai; clear ac ag ai; (try clear hb); (try clear aN); (try clear hk); (try clear hi)) | ((with_reducible refine gate_dst (N := 12) rfl ?_); refine box_event ?hg (N := 12) ?hd (cs := #[.int .i64 0, .int .i64 0, .int .i64 0]) (t := 41) ?hr ?_; (case hd => rfl); (case hg => rfl); (case hr => first | (go_simp; done) | (go_simp; rfl)); intro ab hg bz hbox hb; have ac := Aside0.mk (Kd.R_below (Kd.R_elderB (by (with_reducible repeat (first | apply Kd.R_alloc | apply Kd.R_drewN | apply Kd.R_drew)); exact ad.out) ab (Nat.le_of_eq hg.symm)) hb); have ag := Aside0.mk (IsS86.below (by repeat (first | (with_reducible first | exact HI163.out | apply IsS86.alloc | apply IsS86.drewN | apply IsS86.drew | apply IsS86.set_0 | apply IsS86.set_1 | apply IsS86.set_2) | exact HI163.out)) hb); have ai := Aside0.mk (below_step (by repeat (first | (with_reducible first | exact HB.out | apply below_alloc | apply pw_below_drewN | apply below_drew1 | refine below_set ?_ (IsS86.ge HI163.out)) | exact HB.out)) hb); have an := Aside0.mk (hbox); have a3 := Aside0.mk ((by rw [hg]; exact (below_size (by repeat (first | (with_reducible first | exact HB.out | apply below_alloc | apply pw_below_drewN | apply below_drew1 | refine below_set ?_ (IsS86.ge HI163.out)) | exact HB.out))) : w.heap.size ≤ ab)); have a4 := Aside0.mk ((by rw [hg]; exact (below_size (by repeat (first | (with_reducible first | exact HB.out | apply below_alloc | apply pw_below_drewN | apply below_drew1 | refine below_set ?_ (IsS86.ge HI163.out)) | exact HB.out))) : w.heap.size ≤ ab)); have a5 := Aside0.mk ((by rw [hg]; exact Nat.ne_of_lt (IsS86.lt (show IsS86 w _ g163 aA aC aD from by repeat (first | (with_reducible first | exact HI163.out | apply IsS86.alloc | apply IsS86.drewN | apply IsS86.drew | apply IsS86.set_0 | apply IsS86.set_1 | apply IsS86.set_2) | exact HI163.out))) : g163 ≠ ab)); have a6 := Aside0.mk ((by rw [hg]; exact Nat.ne_of_gt (IsS86.lt (show IsS86 w _ g163 aA aC aD from by repeat (first | (with_reducible first | exact HI163.out | apply IsS86.alloc | apply IsS86.drewN | apply IsS86.drew | apply IsS86.set_0 | apply IsS86.set_1 | apply IsS86.set_2) | exact HI163.out))) : ab ≠ g163)); clear ad; clear HI163; clear HB; have ad := ac; have HI163 := ag; have HB := ai; have aa := an; have bj := a3; have au := a4; have ah := a5; have av := a6; clear ac ag ai an a3 a4 a5 a6; clear hb hbox hg; have cL := av.out; have cM := ah.out; have b6 : bz.cell? ⟨ab, 0, none⟩ = some (.int .i64 0) := (blk_cell aa.out 0).trans rfl; have b7 : bz.cell? ⟨ab, 1, none⟩ = some (.int .i64 0) := (blk_cell aa.out 1).trans rfl; have b8 : bz.cell? ⟨ab, 2, none⟩ = some (.int .i64 0) := (blk_cell aa.out 2).trans rfl; have b9 := blk_frozen aa.out 0; have ca := blk_frozen aa.out 1; have cb := blk_frozen aa.out 2) | ((with_reducible refine gate_callee (f := 33) rfl ?_); refine goesL_ (some 63) rfl rfl Try.func33 (by kernel_rfl) rfl #[.pointer (some ⟨g163, 0, none⟩)] rfl (by (try simp only [List.map_toArray, List.map_cons, List.map_nil]); first | done | rfl | (simp only [List.length_drop, List.length_take]; rfl)) ?_; (with_reducible refine (octet_Reader_I16.calls k2 g163 aA aC aD ak aJ aK aM w _ ?side1 ?side2 A25.out).mono ?_); (case side1 => repeat (first | (with_reducible first | exact HI163.out | apply IsS86.alloc | apply IsS86.drewN | apply IsS86.drew | apply IsS86.set_0 | apply IsS86.set_1 | apply IsS86.set_2 | refine IsS86.far ?_ ah.out _) | exact HI163.out)); (case side2 => repeat (first | (with_reducible first | exact HB.out | apply below_alloc | apply pw_below_drewN | apply below_drew1 | refine below_set ?_ (IsS86.ge HI163.out) | refine below_set ?_ au.out) | exact HB.out)); rintro e bA ⟨rfl, hi, hb, hk⟩; refine ⟨_, rfl, ?_⟩; have ac := Aside0.mk (Kd.R_mono (Kd.R_keep (IsS86.apart (show IsS86 w _ g163 aA aC aD from by repeat (first | (with_reducible first | exact HI163.out | apply IsS86.alloc | apply IsS86.drewN | apply IsS86.drew | apply IsS86.set_0 | apply IsS86.set_1 | apply IsS86.set_2 | refine IsS86.far ?_ ah.out _) | exact HI163.out)) (by (with_reducible repeat (first | apply Kd.R_alloc | apply Kd.R_drewN | apply Kd.R_drew)); exact (Kd.R_mono (Kd.R_far (p := ⟨ab, 2, none⟩) (Kd.R_far (p := ⟨ab, 1, none⟩) (Kd.R_far (p := ⟨ab, 0, none⟩) (Kd.R_mono ad.out (fun k_ hk => (⟨hk, hk.2⟩ : _ ∧ k_ ≠ ab))) (fun _ hk => hk.2) (.int .i64 (wrap64 (ae)))) (fun _ hk => hk.2) (.int .i64 (wrap64 (af)))) (fun _ hk => hk.2) (.int .i64 0)) (fun _ h_ => h_.1))) (by decide)) hk (fun _ h => h.2)) (fun _ h => h.1)); have ag := Aside0.mk (KeepBut.blk hk (g' := ab) (o := .cells #[.int .i64 (wrap64 (ae)), .int .i64 (wrap64 (af)), .int .i64 0] 41 (0, 0)) (by refine kB ?_; refine blk_put (cs := #[.int .i64 (wrap64 (ae)), .int .i64 (wrap64 (af)), .int .i64 0]) ?_ 2 _ rfl; refine kB ?_; refine blk_put (cs := #[.int .i64 (wrap64 (ae)), .int .i64 0, .int .i64 0]) ?_ 1 _ rfl; refine kB ?_; refine blk_put (cs := #[.int .i64 0, .int .i64 0, .int .i64 0]) ?_ 0 _ rfl; refine kB ?_; exact aa.out) av.out (by simp)); have ai := Aside0.mk (hb); have an := Aside0.mk (hi); clear ad; clear aa; clear HB; clear HI163; have ad := ac; have aa := ag; have HB := ai; have HI163 := an; clear ac ag ai an; (try clear hb); (try clear aN); (try clear hk); (try clear hi); have cc : bA.cell? ⟨ab, 0, none⟩ = some (.int .i64 (wrap64 (ae))) := (blk_cell aa.out 0).trans rfl; have cd : bA.cell? ⟨ab, 1, none⟩ = some (.int .i64 (wrap64 (af))) := (blk_cell aa.out 1).trans rfl; have ce : bA.cell? ⟨ab, 2, none⟩ = some (.int .i64 0) := (blk_cell aa.out 2).trans rfl; have cf := blk_frozen aa.out 0; have cg := blk_frozen aa.out 1; have ch := blk_frozen aa.out 2) | ((with_reducible refine gate_builtin (b := .append) (xs := #[.tmp 66, .tmp 68]) rfl ?_); at_builtin; refine Kd.R_append k41 (w0 := w) w.heap.size rfl (.tmp 66) (.tmp 68) 22 41 (.agg #[(.int .i64 0), (.int .i64 0), (.int .i64 0)]) 24 rfl Try.underlying22 info41 rfl (by decide) (by omega) u10 az (⟨wrap64 (ae), wrap64 (af), wrap64 (ak)⟩ : S41) [.int .i64 (wrap64 (ae)), .int .i64 (wrap64 (af)), .int .i64 (wrap64 (ak))] (fun k_ => k_ ≠ ab) (fun _ => False) rfl (by first | (go_simp; done) | (go_simp; rfl)) ?aP (fun _ hk => hk.elim) ?aF ?aO ?aB ?aS ?aL ?_; (case aP => exact k41_mkM _ _ _ (⟨wrap64 (ae), wrap64 (af), wrap64 (ak)⟩ : S41)); (case aB => exact (by repeat (first | (with_reducible first | exact HB.out | apply below_alloc | apply pw_below_drewN | apply below_drew1 | refine below_set ?_ (IsS86.ge HI163.out) | refine below_set ?_ au.out) | exact HB.out))); (case aF => exact (fun k_ hk => Kd.freshB (g := ab) (o := .cells #[.int .i64 (wrap64 (ae)), .int .i64 (wrap64 (af)), .int .i64 (wrap64 (ak))] 41 (0, 0)) (by refine kB ?_; refine blk_put (cs := #[.int .i64 (wrap64 (ae)), .int .i64 (wrap64 (af)), .int .i64 0]) ?_ 2 _ rfl; refine kB ?_; exact aa.out) k_ hk)); (case aO => exact (by (with_reducible repeat (first | apply Kd.R_alloc | apply Kd.R_drewN | apply Kd.R_drew)); exact Kd.R_mono (Kd.R_far (p := ⟨ab, 2, none⟩) (Kd.R_mono ad.out (fun k_ hk => (⟨hk, hk.2⟩ : _ ∧ k_ ≠ ab))) (fun _ hk => hk.2) (.int .i64 (wrap64 (ak)))) (fun _ hk => hk.1.2))); (case aS => exact (below_size (by repeat (first | (with_reducible first | exact HB.out | apply below_alloc | apply pw_below_drewN | apply below_drew1 | refine below_set ?_ (IsS86.ge HI163.out) | refine below_set ?_ au.out) | exact HB.out)))); (case aL => have := LMc26.out; omega); intro v181 bB ho hb hg hat; rw [← Ny180.out] at ho; have ac := Aside0.mk (IsS86.grown (show IsS86 w _ g163 aJ aK aM from by repeat (first | (with_reducible first | exact HI163.out | apply IsS86.alloc | apply IsS86.drewN | apply IsS86.drew | apply IsS86.set_0 | apply IsS86.set_1 | apply IsS86.set_2 | refine IsS86.far ?_ ah.out _) | exact HI163.out)) hg (IsS86.own_ne HI163.out ad.out (by decide))); have ag := Aside0.mk (blk_grown (g := ab) (o := .cells #[.int .i64 (wrap64 (ae)), .int .i64 (wrap64 (af)), .int .i64 (wrap64 (ak))] 41 (0, 0)) (by refine kB ?_; refine blk_put (cs := #[.int .i64 (wrap64 (ae)), .int .i64 (wrap64 (af)), .int .i64 0]) ?_ 2 _ rfl; refine kB ?_; exact aa.out) hg (Kd.R_away ad.out (fun _ hk => hk.2))); have ai := Aside0.mk (hb); have an := Aside0.mk (ho); clear HI163; clear aa; clear HB; clear ad; have HI163 := ac; have aa := ag; have HB := ai; have ax := an; clear ac ag ai an; clear ho hb hg hat; have ci : bB.cell? ⟨ab, 0, none⟩ = some (.int .i64 (wrap64 (ae))) := (blk_cell aa.out 0).trans rfl; have cj : bB.cell? ⟨ab, 1, none⟩ = some (.int .i64 (wrap64 (af))) := (blk_cell aa.out 1).trans rfl; have ck : bB.cell? ⟨ab, 2, none⟩ = some (.int .i64 (wrap64 (ak))) := (blk_cell aa.out 2).trans rfl; have cl := blk_frozen aa.out 0; have cm := blk_frozen aa.out 1; have cn := blk_frozen aa.out 2; obtain ⟨cQ, cR, eo49⟩ := Kd.R_slice ax.out; subst eo49) | (go_at_call 25; (with_reducible refine (kern_rises.calls k2 _ _ ar al true _ ?side1 ?side2 A38.out).mono ?_); (case side1 => repeat (first | exact (Kd.R_reads' ax.out).2.2 | (with_reducible refine Kd.C_alloc ?_ _) | (with_reducible refine Kd.C_drewN ?_ _) | (with_reducible refine Kd.C_drew ?_))); (case side2 => exact (Kd.R_reads' ax.out).2.1); rintro e dc ⟨rfl, hb⟩; have ac := Aside0.mk (Kd.R_below (by (with_reducible repeat (first | apply Kd.R_alloc | apply Kd.R_drewN | apply Kd.R_drew)); exact ax.out) hb); have ag := Aside0.mk (IsS86.below (by repeat (first | (with_reducible first | exact HI163.out | apply IsS86.alloc | apply IsS86.drewN | apply IsS86.drew | apply IsS86.set_0 | apply IsS86.set_1 | apply IsS86.set_2 | refine IsS86.far ?_ ah.out _) | exact HI163.out)) hb); have ai := Aside0.mk (blk_below (g := ab) (o := .cells #[.int .i64 (wrap64 (ae)), .int .i64 (wrap64 (af)), .int .i64 (wrap64 (ak))] 41 (0, 0)) (by refine kB ?_; exact aa.out) hb); have an := Aside0.mk (below_step (by repeat (first | (with_reducible first | exact HB.out | apply below_alloc | apply pw_below_drewN | apply below_drew1 | refine below_set ?_ (IsS86.ge HI163.out) | refine below_set ?_ au.out) | exact HB.out)) hb); clear ax; clear HI163; clear aa; clear HB; have ax := ac; have HI163 := ag; have aa := ai; have HB := an; clear ac ag ai an; (try clear hb); (try clear aN); (try clear hk); (try clear hi)))
                go_roundg k2
                case measure => have := bL.out; have := HK2.out; omega
                case rel => exact ⟨(ar), (wrap64 (al + 1)), (aJ), (aK), (aM), (by first | rfl | (simp; done) | (simp [*]; done)), H', ⟨by have := bL.out; have := HK2.out; omega⟩, ⟨by (with_reducible repeat (first | apply Kd.R_alloc | apply Kd.R_drewN | apply Kd.R_drew)); exact Kd.R_mono ax.out (fun _ hk => trivial)⟩, ⟨by repeat (first | (with_reducible first | exact HI163.out | apply IsS86.alloc | apply IsS86.drewN | apply IsS86.drew | apply IsS86.set_0 | apply IsS86.set_1 | apply IsS86.set_2 | refine IsS86.far ?_ ah.out _) | exact HI163.out)⟩, ⟨by repeat (first | (with_reducible first | exact HB.out | apply below_alloc | apply pw_below_drewN | apply below_drew1 | refine below_set ?_ (IsS86.ge HI163.out) | refine below_set ?_ au.out) | exact HB.out)⟩⟩
               ·replace c39 := Bool.eq_false_iff.mpr c39
                subst c39
                have H1 : (some (([] : List (S41)), 4)) = some (r1, r2) := by rw [if_neg (show ¬ (false = true) by decide)] at H; exact H
                clear H
                have H := H1
                clear H1
                simp only [Option.some.injEq, Prod.mk.injEq] at H
                obtain ⟨rfl, rfl⟩ := H
                go_wp2_with (first | ((with_reducible refine gate_callee (f := 32) rfl ?_); refine goesL_ (some 56) rfl rfl Try.func32 (by kernel_rfl) rfl #[.pointer (some ⟨g163, 0, none⟩)] rfl (by (try simp only [List.map_toArray, List.map_cons, List.map_nil]); first | done | rfl | (simp only [List.length_drop, List.length_take]; rfl)) ?_; (with_reducible refine (octet_Reader_U16.calls k2 g163 ao ap aq ae aT aU aV w _ ?side1 ?side2 A23.out).mono ?_); (case side1 => repeat (first | (with_reducible first | exact HI163.out | apply IsS86.alloc | apply IsS86.drewN | apply IsS86.drew | apply IsS86.set_0 | apply IsS86.set_1 | apply IsS86.set_2) | exact HI163.out)); (case side2 => repeat (first | (with_reducible first | exact HB.out | apply below_alloc | apply pw_below_drewN | apply below_drew1 | refine below_set ?_ (IsS86.ge HI163.out)) | exact HB.out)); rintro e dd ⟨rfl, hi, hb, hk⟩; refine ⟨_, rfl, ?_⟩; have ac := Aside0.mk (Kd.R_mono (Kd.R_keep (IsS86.apart (show IsS86 w _ g163 ao ap aq from by repeat (first | (with_reducible first | exact HI163.out | apply IsS86.alloc | apply IsS86.drewN | apply IsS86.drew | apply IsS86.set_0 | apply IsS86.set_1 | apply IsS86.set_2) | exact HI163.out)) (by (with_reducible repeat (first | apply Kd.R_alloc | apply Kd.R_drewN | apply Kd.R_drew)); exact ad.out) (by decide)) hk (fun _ h => h.2)) (fun _ h => h.1)); have ag := Aside0.mk (hb); have ai := Aside0.mk (hi); clear ad; clear HB; clear HI163; have ad := ac; have HB := ag; have HI163 := ai; clear ac ag ai; (try clear hb); (try clear aN); (try clear hk); (try clear hi)) | ((with_reducible refine gate_callee (f := 32) rfl ?_); refine goesL_ (some 59) rfl rfl Try.func32 (by kernel_rfl) rfl #[.pointer (some ⟨g163, 0, none⟩)] rfl (by (try simp only [List.map_toArray, List.map_cons, List.map_nil]); first | done | rfl | (simp only [List.length_drop, List.length_take]; rfl)) ?_; (with_reducible refine (octet_Reader_U16.calls k2 g163 aT aU aV af aA aC aD w _ ?side1 ?side2 A24.out).mono ?_); (case side1 => repeat (first | (with_reducible first | exact HI163.out | apply IsS86.alloc | apply IsS86.drewN | apply IsS86.drew | apply IsS86.set_0 | apply IsS86.set_1 | apply IsS86.set_2) | exact HI163.out)); (case side2 => repeat (first | (with_reducible first | exact HB.out | apply below_alloc | apply pw_below_drewN | apply below_drew1 | refine below_set ?_ (IsS86.ge HI163.out)) | exact HB.out)); rintro e de ⟨rfl, hi, hb, hk⟩; refine ⟨_, rfl, ?_⟩; have ac := Aside0.mk (Kd.R_mono (Kd.R_keep (IsS86.apart (show IsS86 w _ g163 aT aU aV from by repeat (first | (with_reducible first | exact HI163.out | apply IsS86.alloc | apply IsS86.drewN | apply IsS86.drew | apply IsS86.set_0 | apply IsS86.set_1 | apply IsS86.set_2) | exact HI163.out)) (by (with_reducible repeat (first | apply Kd.R_alloc | apply Kd.R_drewN | apply Kd.R_drew)); exact ad.out) (by decide)) hk (fun _ h => h.2)) (fun _ h => h.1)); have ag := Aside0.mk (hb); have ai := Aside0.mk (hi); clear ad; clear HB; clear HI163; have ad := ac; have HB := ag; have HI163 := ai; clear ac ag ai; (try clear hb); (try clear aN); (try clear hk); (try clear hi)) | ((with_reducible refine gate_dst (N := 12) rfl ?_); refine box_event ?hg (N := 12) ?hd (cs := #[.int .i64 0, .int .i64 0, .int .i64 0]) (t := 41) ?hr ?_; (case hd => rfl); (case hg => rfl); (case hr => first | (go_simp; done) | (go_simp; rfl)); intro ab hg bC hbox hb; have ac := Aside0.mk (Kd.R_below (Kd.R_elderB (by (with_reducible repeat (first | apply Kd.R_alloc | apply Kd.R_drewN | apply Kd.R_drew)); exact ad.out) ab (Nat.le_of_eq hg.symm)) hb); have ag := Aside0.mk (IsS86.below (by repeat (first | (with_reducible first | exact HI163.out | apply IsS86.alloc | apply IsS86.drewN | apply IsS86.drew | apply IsS86.set_0 | apply IsS86.set_1 | apply IsS86.set_2) | exact HI163.out)) hb); have ai := Aside0.mk (below_step (by repeat (first | (with_reducible first | exact HB.out | apply below_alloc | apply pw_below_drewN | apply below_drew1 | refine below_set ?_ (IsS86.ge HI163.out)) | exact HB.out)) hb); have an := Aside0.mk (hbox); have a3 := Aside0.mk ((by rw [hg]; exact (below_size (by repeat (first | (with_reducible first | exact HB.out | apply below_alloc | apply pw_below_drewN | apply below_drew1 | refine below_set ?_ (IsS86.ge HI163.out)) | exact HB.out))) : w.heap.size ≤ ab)); have a4 := Aside0.mk ((by rw [hg]; exact (below_size (by repeat (first | (with_reducible first | exact HB.out | apply below_alloc | apply pw_below_drewN | apply below_drew1 | refine below_set ?_ (IsS86.ge HI163.out)) | exact HB.out))) : w.heap.size ≤ ab)); have a5 := Aside0.mk ((by rw [hg]; exact Nat.ne_of_lt (IsS86.lt (show IsS86 w _ g163 aA aC aD from by repeat (first | (with_reducible first | exact HI163.out | apply IsS86.alloc | apply IsS86.drewN | apply IsS86.drew | apply IsS86.set_0 | apply IsS86.set_1 | apply IsS86.set_2) | exact HI163.out))) : g163 ≠ ab)); have a6 := Aside0.mk ((by rw [hg]; exact Nat.ne_of_gt (IsS86.lt (show IsS86 w _ g163 aA aC aD from by repeat (first | (with_reducible first | exact HI163.out | apply IsS86.alloc | apply IsS86.drewN | apply IsS86.drew | apply IsS86.set_0 | apply IsS86.set_1 | apply IsS86.set_2) | exact HI163.out))) : ab ≠ g163)); clear ad; clear HI163; clear HB; have ad := ac; have HI163 := ag; have HB := ai; have aa := an; have bj := a3; have au := a4; have ah := a5; have av := a6; clear ac ag ai an a3 a4 a5 a6; clear hb hbox hg; have cN := av.out; have cO := ah.out; have co : bC.cell? ⟨ab, 0, none⟩ = some (.int .i64 0) := (blk_cell aa.out 0).trans rfl; have cp : bC.cell? ⟨ab, 1, none⟩ = some (.int .i64 0) := (blk_cell aa.out 1).trans rfl; have cq : bC.cell? ⟨ab, 2, none⟩ = some (.int .i64 0) := (blk_cell aa.out 2).trans rfl; have cr := blk_frozen aa.out 0; have ct := blk_frozen aa.out 1; have cu := blk_frozen aa.out 2) | ((with_reducible refine gate_callee (f := 33) rfl ?_); refine goesL_ (some 63) rfl rfl Try.func33 (by kernel_rfl) rfl #[.pointer (some ⟨g163, 0, none⟩)] rfl (by (try simp only [List.map_toArray, List.map_cons, List.map_nil]); first | done | rfl | (simp only [List.length_drop, List.length_take]; rfl)) ?_; (with_reducible refine (octet_Reader_I16.calls k2 g163 aA aC aD ak aJ aK aM w _ ?side1 ?side2 A25.out).mono ?_); (case side1 => repeat (first | (with_reducible first | exact HI163.out | apply IsS86.alloc | apply IsS86.drewN | apply IsS86.drew | apply IsS86.set_0 | apply IsS86.set_1 | apply IsS86.set_2 | refine IsS86.far ?_ ah.out _) | exact HI163.out)); (case side2 => repeat (first | (with_reducible first | exact HB.out | apply below_alloc | apply pw_below_drewN | apply below_drew1 | refine below_set ?_ (IsS86.ge HI163.out) | refine below_set ?_ au.out) | exact HB.out)); rintro e bD ⟨rfl, hi, hb, hk⟩; refine ⟨_, rfl, ?_⟩; have ac := Aside0.mk (Kd.R_mono (Kd.R_keep (IsS86.apart (show IsS86 w _ g163 aA aC aD from by repeat (first | (with_reducible first | exact HI163.out | apply IsS86.alloc | apply IsS86.drewN | apply IsS86.drew | apply IsS86.set_0 | apply IsS86.set_1 | apply IsS86.set_2 | refine IsS86.far ?_ ah.out _) | exact HI163.out)) (by (with_reducible repeat (first | apply Kd.R_alloc | apply Kd.R_drewN | apply Kd.R_drew)); exact (Kd.R_mono (Kd.R_far (p := ⟨ab, 2, none⟩) (Kd.R_far (p := ⟨ab, 1, none⟩) (Kd.R_far (p := ⟨ab, 0, none⟩) (Kd.R_mono ad.out (fun k_ hk => (⟨hk, hk.2⟩ : _ ∧ k_ ≠ ab))) (fun _ hk => hk.2) (.int .i64 (wrap64 (ae)))) (fun _ hk => hk.2) (.int .i64 (wrap64 (af)))) (fun _ hk => hk.2) (.int .i64 0)) (fun _ h_ => h_.1))) (by decide)) hk (fun _ h => h.2)) (fun _ h => h.1)); have ag := Aside0.mk (KeepBut.blk hk (g' := ab) (o := .cells #[.int .i64 (wrap64 (ae)), .int .i64 (wrap64 (af)), .int .i64 0] 41 (0, 0)) (by refine kB ?_; refine blk_put (cs := #[.int .i64 (wrap64 (ae)), .int .i64 (wrap64 (af)), .int .i64 0]) ?_ 2 _ rfl; refine kB ?_; refine blk_put (cs := #[.int .i64 (wrap64 (ae)), .int .i64 0, .int .i64 0]) ?_ 1 _ rfl; refine kB ?_; refine blk_put (cs := #[.int .i64 0, .int .i64 0, .int .i64 0]) ?_ 0 _ rfl; refine kB ?_; exact aa.out) av.out (by simp)); have ai := Aside0.mk (hb); have an := Aside0.mk (hi); clear ad; clear aa; clear HB; clear HI163; have ad := ac; have aa := ag; have HB := ai; have HI163 := an; clear ac ag ai an; (try clear hb); (try clear aN); (try clear hk); (try clear hi); have cv : bD.cell? ⟨ab, 0, none⟩ = some (.int .i64 (wrap64 (ae))) := (blk_cell aa.out 0).trans rfl; have cw : bD.cell? ⟨ab, 1, none⟩ = some (.int .i64 (wrap64 (af))) := (blk_cell aa.out 1).trans rfl; have cx : bD.cell? ⟨ab, 2, none⟩ = some (.int .i64 0) := (blk_cell aa.out 2).trans rfl; have cy := blk_frozen aa.out 0; have cz := blk_frozen aa.out 1; have cA := blk_frozen aa.out 2) | ((with_reducible refine gate_builtin (b := .append) (xs := #[.tmp 66, .tmp 68]) rfl ?_); at_builtin; refine Kd.R_append k41 (w0 := w) w.heap.size rfl (.tmp 66) (.tmp 68) 22 41 (.agg #[(.int .i64 0), (.int .i64 0), (.int .i64 0)]) 24 rfl Try.underlying22 info41 rfl (by decide) (by omega) u10 az (⟨wrap64 (ae), wrap64 (af), wrap64 (ak)⟩ : S41) [.int .i64 (wrap64 (ae)), .int .i64 (wrap64 (af)), .int .i64 (wrap64 (ak))] (fun k_ => k_ ≠ ab) (fun _ => False) rfl (by first | (go_simp; done) | (go_simp; rfl)) ?aP (fun _ hk => hk.elim) ?aF ?aO ?aB ?aS ?aL ?_; (case aP => exact k41_mkM _ _ _ (⟨wrap64 (ae), wrap64 (af), wrap64 (ak)⟩ : S41)); (case aB => exact (by repeat (first | (with_reducible first | exact HB.out | apply below_alloc | apply pw_below_drewN | apply below_drew1 | refine below_set ?_ (IsS86.ge HI163.out) | refine below_set ?_ au.out) | exact HB.out))); (case aF => exact (fun k_ hk => Kd.freshB (g := ab) (o := .cells #[.int .i64 (wrap64 (ae)), .int .i64 (wrap64 (af)), .int .i64 (wrap64 (ak))] 41 (0, 0)) (by refine kB ?_; refine blk_put (cs := #[.int .i64 (wrap64 (ae)), .int .i64 (wrap64 (af)), .int .i64 0]) ?_ 2 _ rfl; refine kB ?_; exact aa.out) k_ hk)); (case aO => exact (by (with_reducible repeat (first | apply Kd.R_alloc | apply Kd.R_drewN | apply Kd.R_drew)); exact Kd.R_mono (Kd.R_far (p := ⟨ab, 2, none⟩) (Kd.R_mono ad.out (fun k_ hk => (⟨hk, hk.2⟩ : _ ∧ k_ ≠ ab))) (fun _ hk => hk.2) (.int .i64 (wrap64 (ak)))) (fun _ hk => hk.1.2))); (case aS => exact (below_size (by repeat (first | (with_reducible first | exact HB.out | apply below_alloc | apply pw_below_drewN | apply below_drew1 | refine below_set ?_ (IsS86.ge HI163.out) | refine below_set ?_ au.out) | exact HB.out)))); (case aL => have := LMc26.out; omega); intro v181 bE ho hb hg hat; rw [← Ny180.out] at ho; have ac := Aside0.mk (IsS86.grown (show IsS86 w _ g163 aJ aK aM from by repeat (first | (with_reducible first | exact HI163.out | apply IsS86.alloc | apply IsS86.drewN | apply IsS86.drew | apply IsS86.set_0 | apply IsS86.set_1 | apply IsS86.set_2 | refine IsS86.far ?_ ah.out _) | exact HI163.out)) hg (IsS86.own_ne HI163.out ad.out (by decide))); have ag := Aside0.mk (blk_grown (g := ab) (o := .cells #[.int .i64 (wrap64 (ae)), .int .i64 (wrap64 (af)), .int .i64 (wrap64 (ak))] 41 (0, 0)) (by refine kB ?_; refine blk_put (cs := #[.int .i64 (wrap64 (ae)), .int .i64 (wrap64 (af)), .int .i64 0]) ?_ 2 _ rfl; refine kB ?_; exact aa.out) hg (Kd.R_away ad.out (fun _ hk => hk.2))); have ai := Aside0.mk (hb); have an := Aside0.mk (ho); clear HI163; clear aa; clear HB; clear ad; have HI163 := ac; have aa := ag; have HB := ai; have ax := an; clear ac ag ai an; clear ho hb hg hat; have cB : bE.cell? ⟨ab, 0, none⟩ = some (.int .i64 (wrap64 (ae))) := (blk_cell aa.out 0).trans rfl; have cC : bE.cell? ⟨ab, 1, none⟩ = some (.int .i64 (wrap64 (af))) := (blk_cell aa.out 1).trans rfl; have cD : bE.cell? ⟨ab, 2, none⟩ = some (.int .i64 (wrap64 (ak))) := (blk_cell aa.out 2).trans rfl; have cE := blk_frozen aa.out 0; have cF := blk_frozen aa.out 1; have cG := blk_frozen aa.out 2; obtain ⟨cS, cT, eo60⟩ := Kd.R_slice ax.out; subst eo60) | (go_at_call 25; (with_reducible refine (kern_rises.calls k2 _ _ ar al false _ ?side1 ?side2 A38.out).mono ?_); (case side1 => repeat (first | exact (Kd.R_reads' ax.out).2.2 | (with_reducible refine Kd.C_alloc ?_ _) | (with_reducible refine Kd.C_drewN ?_ _) | (with_reducible refine Kd.C_drew ?_))); (case side2 => exact (Kd.R_reads' ax.out).2.1); rintro e df ⟨rfl, hb⟩; have ac := Aside0.mk (Kd.R_below (by (with_reducible repeat (first | apply Kd.R_alloc | apply Kd.R_drewN | apply Kd.R_drew)); exact ax.out) hb); have ag := Aside0.mk (IsS86.below (by repeat (first | (with_reducible first | exact HI163.out | apply IsS86.alloc | apply IsS86.drewN | apply IsS86.drew | apply IsS86.set_0 | apply IsS86.set_1 | apply IsS86.set_2 | refine IsS86.far ?_ ah.out _) | exact HI163.out)) hb); have ai := Aside0.mk (blk_below (g := ab) (o := .cells #[.int .i64 (wrap64 (ae)), .int .i64 (wrap64 (af)), .int .i64 (wrap64 (ak))] 41 (0, 0)) (by refine kB ?_; exact aa.out) hb); have an := Aside0.mk (below_step (by repeat (first | (with_reducible first | exact HB.out | apply below_alloc | apply pw_below_drewN | apply below_drew1 | refine below_set ?_ (IsS86.ge HI163.out) | refine below_set ?_ au.out) | exact HB.out)) hb); clear ax; clear HI163; clear aa; clear HB; have ax := ac; have HI163 := ag; have aa := ai; have HB := an; clear ac ag ai an; (try clear hb); (try clear aN); (try clear hk); (try clear hi)))
                go_ret2
                exact ⟨_, by first | rfl | (simp [errW_none, errW_some] <;> rfl) | (simp only [← aR]; first | rfl | (simp [errW_none, errW_some] <;> rfl)) | (simp [*, errW_none, errW_some] <;> rfl), by first | exact Kd.R_nil _ _ _ _ _ | exact Kd.N_nil _ _ _ _ _ | exact Kd.V_nil _ _ _ _ _ | exact Kd.Q_nil _ _ _ _ _ | exact Kd.S_nil _ _ _ _ _, by repeat (first | (with_reducible first | exact HB.out | apply below_alloc | apply pw_below_drewN | apply below_drew1 | refine below_set ?_ (IsS86.ge HI163.out) | refine below_set ?_ au.out) | exact HB.out)⟩
             ·rw [if_neg c26] at H
              exact absurd H (by simp)
            ·rw [if_neg c22] at H
             have bI : decide (al < (wrap64 (aj))) = false := decide_eq_false c22
             clear c22
             simp only [Option.some.injEq, Prod.mk.injEq] at H
             obtain ⟨rfl, rfl⟩ := H
             go_wp2
             go_ret2
             exact ⟨_, by first | rfl | (simp [errW_none, errW_some] <;> rfl) | (simp [*, errW_none, errW_some] <;> rfl), by (with_reducible repeat (first | apply Kd.R_alloc | apply Kd.R_drewN | apply Kd.R_drew)); exact ad.out, by repeat (first | (with_reducible first | exact HB.out | apply below_alloc | apply pw_below_drewN | apply below_drew1 | refine below_set ?_ (IsS86.ge HI163.out)) | exact HB.out)⟩
        ·rw [if_neg c12] at H
         have bg : ((a0.extract 0 18).toList == aE.toList) = false := beq_eq_false_iff_ne.mpr c12
         have bh : ((a0.extract 0 18).toList != aE.toList) = true := bne_iff_ne.mpr c12
         simp only [Option.some.injEq, Prod.mk.injEq] at H
         obtain ⟨rfl, rfl⟩ := H
         try go_wp2_with (first | ((with_reducible refine gate_callee (f := 29) rfl ?_); refine goesL_ (some 26) rfl rfl Try.func29 (by kernel_rfl) rfl #[.string a0, .int .i64 10] rfl (by (try simp only [List.map_toArray, List.map_cons, List.map_nil]); first | done | rfl | (simp only [List.length_drop, List.length_take]; rfl)) ?_; (with_reducible refine (octet_U16.calls aI a0 10 aj a9 _ A7.out).mono ?_); rintro e w' ⟨rfl, ⟨nd, rfl⟩⟩; refine ⟨_, rfl, ?_⟩))
         (try (rw [drewN_self wc]; generalize hq_ : World.drewN wc _ = wc; have ac : Aside0 (Below w.heap.size w wc) := ⟨by rw [← hq_]; exact (by exact lB HB.out)⟩; clear HB hq_; have HB := ac; clear ac))
         have ac := Aside0.mk (below_drew1 HB.out)
         clear HB
         have HB := ac
         clear ac
         refine start_ (n := 6) (S := fun w' => True) (ds := []) #[false, false, false, false, false, false] (by kernel_rfl) rfl rfl trivial (fun hHeld => ?_)
         generalize wc.drew = dg at HB hHeld ⊢
         refine pure_ (i := 0) (N := some 35) (v := ?_) (a' := ?_) #[true, false, false, false, false, false] rfl rfl (by kernel_rfl) (fun _ _ _ h => h) (Or.inl ⟨by rfl, ?_⟩) ?_ ?_
         rotate_left
         ·intro w'
          go_simp
          with_reducible rfl
         rotate_left
         ·exact pA
         refine pure_ (i := 1) (N := some 36) (v := ?_) (a' := ?_) #[true, true, false, false, false, false] rfl rfl (by kernel_rfl) (fun _ _ _ h => h) (Or.inl ⟨by rfl, ?_⟩) ?_ ?_
         rotate_left
         ·intro w'
          go_simp
          with_reducible rfl
         rotate_left
         ·exact pA
         refine pure_ (i := 2) (N := some 37) (v := ?_) (a' := ?_) #[true, true, true, false, false, false] rfl rfl (by kernel_rfl) (fun _ _ _ h => h) (Or.inl ⟨by rfl, ?_⟩) ?_ ?_
         rotate_left
         ·intro w'
          go_simp
          with_reducible rfl
         rotate_left
         ·exact pA
         refine one_ (i := 3) (N := some 38) #[true, true, true, true, false, false] rfl rfl (by kernel_rfl) (by decide) (fun K hK => ?_)
         refine goes_ Try.func20 (by kernel_rfl) rfl #[.int .i64 (wrap64 (aj))] (by rfl) rfl rfl (by (try simp only [List.map_toArray, List.map_cons, List.map_nil]); first | done | rfl | (simp only [List.length_drop, List.length_take]; rfl)) ?_
         with_reducible refine (kern_ahead.calls aI (wrap64 (aj)) aE _ A11.out).mono ?_
         rintro e dh ⟨rfl, hb⟩
         refine ⟨_, rfl, ?_⟩
         have ac := Aside0.mk (below_step (by exact lB HB.out) hb)
         clear HB
         have HB := ac
         clear ac
         (try clear hb)
         (try clear aN)
         (try clear hk)
         (try clear hi)
         refine hK.out _ _ trivial (fun hHeld => ?_)
         clear hK K
         refine norm_ (a' := ?_) ?_ ?_
         rotate_left
         ·show Act.put _ (some 38) _ = _
          exact pA
         refine pure_ (i := 4) (N := some 39) (v := ?_) (a' := ?_) #[true, true, true, true, true, false] rfl rfl (by kernel_rfl) (fun _ _ _ h => h) (Or.inl ⟨by rfl, ?_⟩) ?_ ?_
         rotate_left
         ·intro w'
          go_simp
          with_reducible rfl
         rotate_left
         ·exact pA
         refine pure_ (i := 5) (N := some 34) (v := ?_) (a' := ?_) #[true, true, true, true, true, true] rfl rfl (by kernel_rfl) (fun _ _ _ h => h) (Or.inl ⟨by rfl, ?_⟩) ?_ ?_
         rotate_left
         ·intro w'
          go_simp
          with_reducible rfl
         rotate_left
         ·exact pA
         refine done_ (by kernel_rfl) ?_
         try go_wp2
         go_ret2
         exact ⟨_, by first | rfl | (simp [errW_none, errW_some] <;> rfl) | (simp [*, errW_none, errW_some] <;> rfl), by first | exact Kd.R_nil _ _ _ _ _ | exact Kd.N_nil _ _ _ _ _ | exact Kd.V_nil _ _ _ _ _ | exact Kd.Q_nil _ _ _ _ _ | exact Kd.S_nil _ _ _ _ _, by exact lB HB.out⟩
       ·rw [if_neg c10] at H
        exact absurd H (by simp)
      ·rw [if_neg c9] at H
       exact absurd H (by simp)

end Go.Proofs.Ythnojbbfmcapnaa.Pr
