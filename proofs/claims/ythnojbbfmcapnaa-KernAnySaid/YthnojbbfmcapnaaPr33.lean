-- printed by a program of this session's (wip/mp.sh), out of the translation; the texts of its folder 'given' are typed by hand
-- shortened (wip/short.py)
import Derived.Test.YthnojbbfmcapnaaPr0
import Derived.Test.YthnojbbfmcapnaaPr6
import Derived.Test.YthnojbbfmcapnaaPr18
import Derived.Test.YthnojbbfmcapnaaPr21
import Derived.Test.YthnojbbfmcapnaaPr27
import Derived.Test.YthnojbbfmcapnaaPr32
namespace Go.Proofs.Ythnojbbfmcapnaa.Pr
open Go.RowKit Go.Proofs.YthnojbbfmcapnaaW.PrintWords Go.Proofs.YthnojbbfmcapnaaW.PrintLast Go.Proofs.YthnojbbfmcapnaaW.PrintMore
attribute [local go_sem] max2_int min2_int max_two min_two max_three min_three max_four min_four   -- for this text's walks alone
set_option linter.unusedVariables false
set_option linter.unusedSimpArgs false

/-! ### pochoirlaw40_KernAny: function 4 -/
def pochoirlaw40_KernAny.f (k : Nat) (a0 : ByteArray) (a1 : Int) : Option (Bool) := (pochoirlaw40_awake.f k).bind fun ap => (if ap = true then (if (a0.size : Int) > 700 then (some true) else ((kern_Parse.f k a0 a1).bind fun ah => ((pochoirref40_Parse.f k a0 a1).bind fun ac => ((pochoirref40_Same.f k ah.1 ac.1).bind fun ak => (if ak = true then (if ah.2 = ac.2 then (if ac.2 = 0 then ((kern_May.f k ah.1 a1).bind fun aj => (some aj)) else (some true)) else (some false)) else (some false)))))) else (some false))
theorem pochoirlaw40_KernAny.mono : ∀ a0 a1 k, LeO (pochoirlaw40_KernAny.f k a0 a1) (pochoirlaw40_KernAny.f (k + 1) a0 a1) := by
 intro a0 a1 k
 unfold pochoirlaw40_KernAny.f
 repeat' first
   | (with_reducible exact kern_May.mono _ _ _)
   | (with_reducible exact kern_Parse.mono _ _ _)
   | (with_reducible exact pochoirlaw40_awake.mono _)
   | (with_reducible exact pochoirref40_Parse.mono _ _ _)
   | (with_reducible exact pochoirref40_Same.mono _ _ _)
   | (with_reducible exact LeO.refl _)
   | (with_reducible exact LeO.none _)
   | (with_reducible refine LeO.ite ?_ ?_)
   | (with_reducible refine LeO.bind ?_ (fun _ => ?_))
   | exact kern_May.mono _ _ _
   | exact kern_Parse.mono _ _ _
   | exact pochoirlaw40_awake.mono _
   | exact pochoirref40_Parse.mono _ _ _
   | exact pochoirref40_Same.mono _ _ _
   | exact LeO.none _
   | refine LeO.ite ?_ ?_
   | refine LeO.bind ?_ (fun _ => ?_)
set_option maxHeartbeats 8000000 in
set_option maxRecDepth 100000 in
theorem pochoirlaw40_KernAny.calls (k : Nat) (a0 : ByteArray) (a1 : Int) (r : Bool) (w : World) (h : pochoirlaw40_KernAny.f k a0 a1 = some r) :
  Calls Try.prog 4 #[.string a0, .int .i64 a1] w fun e w' => e = .returned (.bool r) ∧ Below w.heap.size w w' := by
 have HB := Aside0.mk (Below.refl w.heap.size w)
 have H : ((pochoirlaw40_awake.f k).bind fun ap => (if ap = true then (if (a0.size : Int) > 700 then (some true) else ((kern_Parse.f k a0 a1).bind fun ah => ((pochoirref40_Parse.f k a0 a1).bind fun ac => ((pochoirref40_Same.f k ah.1 ac.1).bind fun ak => (if ak = true then (if ah.2 = ac.2 then (if ac.2 = 0 then ((kern_May.f k ah.1 a1).bind fun aj => (some aj)) else (some true)) else (some false)) else (some false)))))) else (some false))) = some r := h
 clear h
 replace H := Option.bind_eq_some_iff.mp H
 obtain ⟨ap, A30, H⟩ := H
 replace H : (if ap = true then (if (a0.size : Int) > 700 then (some true) else ((kern_Parse.f k a0 a1).bind fun ah => ((pochoirref40_Parse.f k a0 a1).bind fun ac => ((pochoirref40_Same.f k ah.1 ac.1).bind fun ak => (if ak = true then (if ah.2 = ac.2 then (if ac.2 = 0 then ((kern_May.f k ah.1 a1).bind fun aj => (some aj)) else (some true)) else (some false)) else (some false)))))) else (some false)) = some r := H
 have A3 := Aside0.mk A30
 clear A30
 by_cases c4 : ap = true
 ·subst c4
  have H1 : (if (a0.size : Int) > 700 then (some true) else ((kern_Parse.f k a0 a1).bind fun ah => ((pochoirref40_Parse.f k a0 a1).bind fun ac => ((pochoirref40_Same.f k ah.1 ac.1).bind fun ak => (if ak = true then (if ah.2 = ac.2 then (if ac.2 = 0 then ((kern_May.f k ah.1 a1).bind fun aj => (some aj)) else (some true)) else (some false)) else (some false)))))) = some r := by rw [if_pos rfl] at H; exact H
  clear H
  have H := H1
  clear H1
  by_cases c5 : (a0.size : Int) > 700
  ·rw [if_pos c5] at H
   have aw : decide (700 < (a0.size : Int)) = true := decide_eq_true c5
   have ax : decide (700 < a0.size) = true := decide_eq_true (by omega)
   clear c5
   obtain rfl := Option.some.inj H
   go_enter Try.func4, Try.ntmps4
   go_wp2_with (first | ((with_reducible refine gate_callee (f := 6) rfl ?_); refine goesL_ (some 9) rfl rfl Try.func6 (by kernel_rfl) rfl #[] rfl (by (try simp only [List.map_toArray, List.map_cons, List.map_nil]); first | done | rfl | (simp only [List.length_drop, List.length_take]; rfl)) ?_; (with_reducible refine (pochoirlaw40_awake.calls k  true _ A3.out).mono ?_); rintro e w6 ⟨rfl, hb⟩; refine ⟨_, rfl, ?_⟩; have ab := Aside0.mk (below_step (by exact lB HB.out) hb); clear HB; have HB := ab; clear ab; (try clear hb); (try clear an); (try clear hk); (try clear hi)))
   go_ret
   exact ⟨by first | rfl | (simp [errW_none, errW_some] <;> rfl) | (simp [*, errW_none, errW_some] <;> rfl), by exact lB HB.out⟩
  ·rw [if_neg c5] at H
   have aw : decide (700 < (a0.size : Int)) = false := decide_eq_false c5
   have ax : decide (700 < a0.size) = false := decide_eq_false (by omega)
   clear c5
   replace H := Option.bind_eq_some_iff.mp H
   obtain ⟨⟨ai, al⟩, A70, H⟩ := H
   replace H : ((pochoirref40_Parse.f k a0 a1).bind fun ac => ((pochoirref40_Same.f k ai ac.1).bind fun ak => (if ak = true then (if al = ac.2 then (if ac.2 = 0 then ((kern_May.f k ai a1).bind fun aj => (some aj)) else (some true)) else (some false)) else (some false)))) = some r := H
   have A7 := Aside0.mk A70
   clear A70
   replace H := Option.bind_eq_some_iff.mp H
   obtain ⟨⟨am, ae⟩, A80, H⟩ := H
   replace H : ((pochoirref40_Same.f k ai am).bind fun ak => (if ak = true then (if al = ae then (if ae = 0 then ((kern_May.f k ai a1).bind fun aj => (some aj)) else (some true)) else (some false)) else (some false))) = some r := H
   have A8 := Aside0.mk A80
   clear A80
   replace H := Option.bind_eq_some_iff.mp H
   obtain ⟨ak, A90, H⟩ := H
   replace H : (if ak = true then (if al = ae then (if ae = 0 then ((kern_May.f k ai a1).bind fun aj => (some aj)) else (some true)) else (some false)) else (some false)) = some r := H
   have A9 := Aside0.mk A90
   clear A90
   by_cases c10 : ak = true
   ·subst c10
    have H1 : (if al = ae then (if ae = 0 then ((kern_May.f k ai a1).bind fun aj => (some aj)) else (some true)) else (some false)) = some r := by rw [if_pos rfl] at H; exact H
    clear H
    have H := H1
    clear H1
    by_cases c11 : al = ae
    ·rw [if_pos c11] at H
     have aq : (al == ae) = true := beq_iff_eq.mpr c11
     have ar : (al != ae) = false := bne_eq_false_iff_eq.mpr c11
     clear c11
     by_cases c12 : ae = 0
     ·rw [if_pos c12] at H
      have au : (ae == 0) = true := beq_iff_eq.mpr c12
      have av : (ae != 0) = false := bne_eq_false_iff_eq.mpr c12
      clear c12
      replace H := Option.bind_eq_some_iff.mp H
      obtain ⟨aj, A130, H⟩ := H
      replace H : (some aj) = some r := H
      have A13 := Aside0.mk A130
      clear A130
      obtain rfl := Option.some.inj H
      go_enter Try.func4, Try.ntmps4
      go_wp2_with (first | ((with_reducible refine gate_callee (f := 6) rfl ?_); refine goesL_ (some 9) rfl rfl Try.func6 (by kernel_rfl) rfl #[] rfl (by (try simp only [List.map_toArray, List.map_cons, List.map_nil]); first | done | rfl | (simp only [List.length_drop, List.length_take]; rfl)) ?_; (with_reducible refine (pochoirlaw40_awake.calls k  true _ A3.out).mono ?_); rintro e aO ⟨rfl, hb⟩; refine ⟨_, rfl, ?_⟩; have ab := Aside0.mk (below_step (by exact lB HB.out) hb); clear HB; have HB := ab; clear ab; (try clear hb); (try clear an); (try clear hk); (try clear hi)) | ((with_reducible refine gate_callee (f := 13) rfl ?_); refine goesL_ (some 17) rfl rfl Try.func13 (by kernel_rfl) rfl #[.string a0, .int .i64 a1] rfl (by (try simp only [List.map_toArray, List.map_cons, List.map_nil]); first | done | rfl | (simp only [List.length_drop, List.length_take]; rfl)) ?_; (with_reducible refine (kern_Parse.calls k a0 a1 ai al _ A7.out).mono ?_); rintro e aP ⟨v290, rfl, af, hb⟩; refine ⟨_, rfl, ?_⟩; have ab := Aside0.mk (Kd.R_lower af (below_size (by exact lB HB.out))); have ag := Aside0.mk (below_step (by exact lB HB.out) hb); clear HB; have aa := ab; have HB := ag; clear ab ag; (try clear hb); (try clear an); (try clear hk); (try clear hi); (try clear af)) | ((with_reducible refine gate_callee (f := 15) rfl ?_); refine goesL_ (some 23) rfl rfl Try.func15 (by kernel_rfl) rfl #[.string a0, .int .i64 a1] rfl (by (try simp only [List.map_toArray, List.map_cons, List.map_nil]); first | done | rfl | (simp only [List.length_drop, List.length_take]; rfl)) ?_; (with_reducible refine (pochoirref40_Parse.calls k a0 a1 am ae _ A8.out).mono ?_); rintro e aQ ⟨v294, rfl, af, hb⟩; refine ⟨_, rfl, ?_⟩; have ab := Aside0.mk (Kd.R_elder' (by (with_reducible repeat (first | apply Kd.R_alloc | apply Kd.R_drewN | apply Kd.R_drew)); exact aa.out) (Kd.R_base af) hb); have ag := Aside0.mk (Kd.R_lower (Kd.R_new' af (Kd.R_lt (by (with_reducible repeat (first | apply Kd.R_alloc | apply Kd.R_drewN | apply Kd.R_drew)); exact aa.out))) (below_size (by exact lB HB.out))); have ao := Aside0.mk (below_step (by exact lB HB.out) hb); clear aa; clear HB; have aa := ab; have ad := ag; have HB := ao; clear ab ag ao; (try clear hb); (try clear an); (try clear hk); (try clear hi); (try clear af); obtain ⟨ay, az, eo17⟩ := Kd.R_slice aa.out; subst eo17; obtain ⟨aA, aB, eo18⟩ := Kd.R_slice ad.out; subst eo18) | ((with_reducible refine gate_callee (f := 14) rfl ?_); refine goesL_ (some 28) rfl rfl Try.func14 (by kernel_rfl) rfl #[.slice ay ai.length az, .slice aA am.length aB] rfl (by (try simp only [List.map_toArray, List.map_cons, List.map_nil]); first | done | rfl | (simp only [List.length_drop, List.length_take]; rfl)) ?_; (with_reducible refine (pochoirref40_Same.calls k _ _ ai _ _ am true _ ?side1 ?side2 ?side3 ?side4 A9.out).mono ?_); (case side1 => repeat (first | exact (Kd.R_reads' aa.out).2.2 | (with_reducible refine Kd.C_alloc ?_ _) | (with_reducible refine Kd.C_drewN ?_ _) | (with_reducible refine Kd.C_drew ?_))); (case side2 => exact (Kd.R_reads' aa.out).2.1); (case side3 => repeat (first | exact (Kd.R_reads' ad.out).2.2 | (with_reducible refine Kd.C_alloc ?_ _) | (with_reducible refine Kd.C_drewN ?_ _) | (with_reducible refine Kd.C_drew ?_))); (case side4 => exact (Kd.R_reads' ad.out).2.1); rintro e w' ⟨rfl, ⟨nd, rfl⟩⟩; refine ⟨_, rfl, ?_⟩) | (go_at_call 9; (with_reducible refine (kern_May.calls k _ _ ai a1 aj _ ?side1 ?side2 A13.out).mono ?_); (case side1 => repeat (first | exact (Kd.R_reads' aa.out).2.2 | (with_reducible refine Kd.C_alloc ?_ _) | (with_reducible refine Kd.C_drewN ?_ _) | (with_reducible refine Kd.C_drew ?_))); (case side2 => exact (Kd.R_reads' aa.out).2.1); rintro e aR ⟨rfl, hb⟩; have ab := Aside0.mk (Kd.R_below (by (with_reducible repeat (first | apply Kd.R_alloc | apply Kd.R_drewN | apply Kd.R_drew)); exact aa.out) hb); have ag := Aside0.mk (Kd.R_below (by (with_reducible repeat (first | apply Kd.R_alloc | apply Kd.R_drewN | apply Kd.R_drew)); exact ad.out) hb); have ao := Aside0.mk (below_step (by exact lB HB.out) hb); clear aa; clear ad; clear HB; have aa := ab; have ad := ag; have HB := ao; clear ab ag ao; (try clear hb); (try clear an); (try clear hk); (try clear hi)))
      go_ret
      exact ⟨by first | rfl | (simp [errW_none, errW_some] <;> rfl) | (simp [*, errW_none, errW_some] <;> rfl), by exact lB HB.out⟩
     ·rw [if_neg c12] at H
      have au : (ae == 0) = false := beq_eq_false_iff_ne.mpr c12
      have av : (ae != 0) = true := bne_iff_ne.mpr c12
      obtain rfl := Option.some.inj H
      go_enter Try.func4, Try.ntmps4
      go_wp2_with (first | ((with_reducible refine gate_callee (f := 6) rfl ?_); refine goesL_ (some 9) rfl rfl Try.func6 (by kernel_rfl) rfl #[] rfl (by (try simp only [List.map_toArray, List.map_cons, List.map_nil]); first | done | rfl | (simp only [List.length_drop, List.length_take]; rfl)) ?_; (with_reducible refine (pochoirlaw40_awake.calls k  true _ A3.out).mono ?_); rintro e aS ⟨rfl, hb⟩; refine ⟨_, rfl, ?_⟩; have ab := Aside0.mk (below_step (by exact lB HB.out) hb); clear HB; have HB := ab; clear ab; (try clear hb); (try clear an); (try clear hk); (try clear hi)) | ((with_reducible refine gate_callee (f := 13) rfl ?_); refine goesL_ (some 17) rfl rfl Try.func13 (by kernel_rfl) rfl #[.string a0, .int .i64 a1] rfl (by (try simp only [List.map_toArray, List.map_cons, List.map_nil]); first | done | rfl | (simp only [List.length_drop, List.length_take]; rfl)) ?_; (with_reducible refine (kern_Parse.calls k a0 a1 ai al _ A7.out).mono ?_); rintro e aT ⟨v290, rfl, af, hb⟩; refine ⟨_, rfl, ?_⟩; have ab := Aside0.mk (Kd.R_lower af (below_size (by exact lB HB.out))); have ag := Aside0.mk (below_step (by exact lB HB.out) hb); clear HB; have aa := ab; have HB := ag; clear ab ag; (try clear hb); (try clear an); (try clear hk); (try clear hi); (try clear af)) | ((with_reducible refine gate_callee (f := 15) rfl ?_); refine goesL_ (some 23) rfl rfl Try.func15 (by kernel_rfl) rfl #[.string a0, .int .i64 a1] rfl (by (try simp only [List.map_toArray, List.map_cons, List.map_nil]); first | done | rfl | (simp only [List.length_drop, List.length_take]; rfl)) ?_; (with_reducible refine (pochoirref40_Parse.calls k a0 a1 am ae _ A8.out).mono ?_); rintro e aU ⟨v294, rfl, af, hb⟩; refine ⟨_, rfl, ?_⟩; have ab := Aside0.mk (Kd.R_elder' (by (with_reducible repeat (first | apply Kd.R_alloc | apply Kd.R_drewN | apply Kd.R_drew)); exact aa.out) (Kd.R_base af) hb); have ag := Aside0.mk (Kd.R_lower (Kd.R_new' af (Kd.R_lt (by (with_reducible repeat (first | apply Kd.R_alloc | apply Kd.R_drewN | apply Kd.R_drew)); exact aa.out))) (below_size (by exact lB HB.out))); have ao := Aside0.mk (below_step (by exact lB HB.out) hb); clear aa; clear HB; have aa := ab; have ad := ag; have HB := ao; clear ab ag ao; (try clear hb); (try clear an); (try clear hk); (try clear hi); (try clear af); obtain ⟨aC, aD, eo23⟩ := Kd.R_slice aa.out; subst eo23; obtain ⟨aE, aF, eo24⟩ := Kd.R_slice ad.out; subst eo24) | ((with_reducible refine gate_callee (f := 14) rfl ?_); refine goesL_ (some 28) rfl rfl Try.func14 (by kernel_rfl) rfl #[.slice aC ai.length aD, .slice aE am.length aF] rfl (by (try simp only [List.map_toArray, List.map_cons, List.map_nil]); first | done | rfl | (simp only [List.length_drop, List.length_take]; rfl)) ?_; (with_reducible refine (pochoirref40_Same.calls k _ _ ai _ _ am true _ ?side1 ?side2 ?side3 ?side4 A9.out).mono ?_); (case side1 => repeat (first | exact (Kd.R_reads' aa.out).2.2 | (with_reducible refine Kd.C_alloc ?_ _) | (with_reducible refine Kd.C_drewN ?_ _) | (with_reducible refine Kd.C_drew ?_))); (case side2 => exact (Kd.R_reads' aa.out).2.1); (case side3 => repeat (first | exact (Kd.R_reads' ad.out).2.2 | (with_reducible refine Kd.C_alloc ?_ _) | (with_reducible refine Kd.C_drewN ?_ _) | (with_reducible refine Kd.C_drew ?_))); (case side4 => exact (Kd.R_reads' ad.out).2.1); rintro e w' ⟨rfl, ⟨nd, rfl⟩⟩; refine ⟨_, rfl, ?_⟩))
      go_ret
      exact ⟨by first | rfl | (simp [errW_none, errW_some] <;> rfl) | (simp [*, errW_none, errW_some] <;> rfl), by exact lB HB.out⟩
    ·rw [if_neg c11] at H
     have aq : (al == ae) = false := beq_eq_false_iff_ne.mpr c11
     have ar : (al != ae) = true := bne_iff_ne.mpr c11
     obtain rfl := Option.some.inj H
     go_enter Try.func4, Try.ntmps4
     go_wp2_with (first | ((with_reducible refine gate_callee (f := 6) rfl ?_); refine goesL_ (some 9) rfl rfl Try.func6 (by kernel_rfl) rfl #[] rfl (by (try simp only [List.map_toArray, List.map_cons, List.map_nil]); first | done | rfl | (simp only [List.length_drop, List.length_take]; rfl)) ?_; (with_reducible refine (pochoirlaw40_awake.calls k  true _ A3.out).mono ?_); rintro e aV ⟨rfl, hb⟩; refine ⟨_, rfl, ?_⟩; have ab := Aside0.mk (below_step (by exact lB HB.out) hb); clear HB; have HB := ab; clear ab; (try clear hb); (try clear an); (try clear hk); (try clear hi)) | ((with_reducible refine gate_callee (f := 13) rfl ?_); refine goesL_ (some 17) rfl rfl Try.func13 (by kernel_rfl) rfl #[.string a0, .int .i64 a1] rfl (by (try simp only [List.map_toArray, List.map_cons, List.map_nil]); first | done | rfl | (simp only [List.length_drop, List.length_take]; rfl)) ?_; (with_reducible refine (kern_Parse.calls k a0 a1 ai al _ A7.out).mono ?_); rintro e aW ⟨v290, rfl, af, hb⟩; refine ⟨_, rfl, ?_⟩; have ab := Aside0.mk (Kd.R_lower af (below_size (by exact lB HB.out))); have ag := Aside0.mk (below_step (by exact lB HB.out) hb); clear HB; have aa := ab; have HB := ag; clear ab ag; (try clear hb); (try clear an); (try clear hk); (try clear hi); (try clear af)) | ((with_reducible refine gate_callee (f := 15) rfl ?_); refine goesL_ (some 23) rfl rfl Try.func15 (by kernel_rfl) rfl #[.string a0, .int .i64 a1] rfl (by (try simp only [List.map_toArray, List.map_cons, List.map_nil]); first | done | rfl | (simp only [List.length_drop, List.length_take]; rfl)) ?_; (with_reducible refine (pochoirref40_Parse.calls k a0 a1 am ae _ A8.out).mono ?_); rintro e aX ⟨v294, rfl, af, hb⟩; refine ⟨_, rfl, ?_⟩; have ab := Aside0.mk (Kd.R_elder' (by (with_reducible repeat (first | apply Kd.R_alloc | apply Kd.R_drewN | apply Kd.R_drew)); exact aa.out) (Kd.R_base af) hb); have ag := Aside0.mk (Kd.R_lower (Kd.R_new' af (Kd.R_lt (by (with_reducible repeat (first | apply Kd.R_alloc | apply Kd.R_drewN | apply Kd.R_drew)); exact aa.out))) (below_size (by exact lB HB.out))); have ao := Aside0.mk (below_step (by exact lB HB.out) hb); clear aa; clear HB; have aa := ab; have ad := ag; have HB := ao; clear ab ag ao; (try clear hb); (try clear an); (try clear hk); (try clear hi); (try clear af); obtain ⟨aG, aH, eo28⟩ := Kd.R_slice aa.out; subst eo28; obtain ⟨aI, aJ, eo29⟩ := Kd.R_slice ad.out; subst eo29) | ((with_reducible refine gate_callee (f := 14) rfl ?_); refine goesL_ (some 28) rfl rfl Try.func14 (by kernel_rfl) rfl #[.slice aG ai.length aH, .slice aI am.length aJ] rfl (by (try simp only [List.map_toArray, List.map_cons, List.map_nil]); first | done | rfl | (simp only [List.length_drop, List.length_take]; rfl)) ?_; (with_reducible refine (pochoirref40_Same.calls k _ _ ai _ _ am true _ ?side1 ?side2 ?side3 ?side4 A9.out).mono ?_); (case side1 => repeat (first | exact (Kd.R_reads' aa.out).2.2 | (with_reducible refine Kd.C_alloc ?_ _) | (with_reducible refine Kd.C_drewN ?_ _) | (with_reducible refine Kd.C_drew ?_))); (case side2 => exact (Kd.R_reads' aa.out).2.1); (case side3 => repeat (first | exact (Kd.R_reads' ad.out).2.2 | (with_reducible refine Kd.C_alloc ?_ _) | (with_reducible refine Kd.C_drewN ?_ _) | (with_reducible refine Kd.C_drew ?_))); (case side4 => exact (Kd.R_reads' ad.out).2.1); rintro e w' ⟨rfl, ⟨nd, rfl⟩⟩; refine ⟨_, rfl, ?_⟩))
     go_ret
     exact ⟨by first | rfl | (simp [errW_none, errW_some] <;> rfl) | (simp [*, errW_none, errW_some] <;> rfl), by exact lB HB.out⟩
   ·replace c10 := Bool.eq_false_iff.mpr c10
    subst c10
    have H1 : (some false) = some r := by rw [if_neg (show ¬ (false = true) by decide)] at H; exact H
    clear H
    have H := H1
    clear H1
    obtain rfl := Option.some.inj H
    go_enter Try.func4, Try.ntmps4
    go_wp2_with (first | ((with_reducible refine gate_callee (f := 6) rfl ?_); refine goesL_ (some 9) rfl rfl Try.func6 (by kernel_rfl) rfl #[] rfl (by (try simp only [List.map_toArray, List.map_cons, List.map_nil]); first | done | rfl | (simp only [List.length_drop, List.length_take]; rfl)) ?_; (with_reducible refine (pochoirlaw40_awake.calls k  true _ A3.out).mono ?_); rintro e aY ⟨rfl, hb⟩; refine ⟨_, rfl, ?_⟩; have ab := Aside0.mk (below_step (by exact lB HB.out) hb); clear HB; have HB := ab; clear ab; (try clear hb); (try clear an); (try clear hk); (try clear hi)) | ((with_reducible refine gate_callee (f := 13) rfl ?_); refine goesL_ (some 17) rfl rfl Try.func13 (by kernel_rfl) rfl #[.string a0, .int .i64 a1] rfl (by (try simp only [List.map_toArray, List.map_cons, List.map_nil]); first | done | rfl | (simp only [List.length_drop, List.length_take]; rfl)) ?_; (with_reducible refine (kern_Parse.calls k a0 a1 ai al _ A7.out).mono ?_); rintro e aZ ⟨v290, rfl, af, hb⟩; refine ⟨_, rfl, ?_⟩; have ab := Aside0.mk (Kd.R_lower af (below_size (by exact lB HB.out))); have ag := Aside0.mk (below_step (by exact lB HB.out) hb); clear HB; have aa := ab; have HB := ag; clear ab ag; (try clear hb); (try clear an); (try clear hk); (try clear hi); (try clear af)) | ((with_reducible refine gate_callee (f := 15) rfl ?_); refine goesL_ (some 23) rfl rfl Try.func15 (by kernel_rfl) rfl #[.string a0, .int .i64 a1] rfl (by (try simp only [List.map_toArray, List.map_cons, List.map_nil]); first | done | rfl | (simp only [List.length_drop, List.length_take]; rfl)) ?_; (with_reducible refine (pochoirref40_Parse.calls k a0 a1 am ae _ A8.out).mono ?_); rintro e a2 ⟨v294, rfl, af, hb⟩; refine ⟨_, rfl, ?_⟩; have ab := Aside0.mk (Kd.R_elder' (by (with_reducible repeat (first | apply Kd.R_alloc | apply Kd.R_drewN | apply Kd.R_drew)); exact aa.out) (Kd.R_base af) hb); have ag := Aside0.mk (Kd.R_lower (Kd.R_new' af (Kd.R_lt (by (with_reducible repeat (first | apply Kd.R_alloc | apply Kd.R_drewN | apply Kd.R_drew)); exact aa.out))) (below_size (by exact lB HB.out))); have ao := Aside0.mk (below_step (by exact lB HB.out) hb); clear aa; clear HB; have aa := ab; have ad := ag; have HB := ao; clear ab ag ao; (try clear hb); (try clear an); (try clear hk); (try clear hi); (try clear af); obtain ⟨aK, aL, eo33⟩ := Kd.R_slice aa.out; subst eo33; obtain ⟨aM, aN, eo34⟩ := Kd.R_slice ad.out; subst eo34) | ((with_reducible refine gate_callee (f := 14) rfl ?_); refine goesL_ (some 28) rfl rfl Try.func14 (by kernel_rfl) rfl #[.slice aK ai.length aL, .slice aM am.length aN] rfl (by (try simp only [List.map_toArray, List.map_cons, List.map_nil]); first | done | rfl | (simp only [List.length_drop, List.length_take]; rfl)) ?_; (with_reducible refine (pochoirref40_Same.calls k _ _ ai _ _ am false _ ?side1 ?side2 ?side3 ?side4 A9.out).mono ?_); (case side1 => repeat (first | exact (Kd.R_reads' aa.out).2.2 | (with_reducible refine Kd.C_alloc ?_ _) | (with_reducible refine Kd.C_drewN ?_ _) | (with_reducible refine Kd.C_drew ?_))); (case side2 => exact (Kd.R_reads' aa.out).2.1); (case side3 => repeat (first | exact (Kd.R_reads' ad.out).2.2 | (with_reducible refine Kd.C_alloc ?_ _) | (with_reducible refine Kd.C_drewN ?_ _) | (with_reducible refine Kd.C_drew ?_))); (case side4 => exact (Kd.R_reads' ad.out).2.1); rintro e w' ⟨rfl, ⟨nd, rfl⟩⟩; refine ⟨_, rfl, ?_⟩))
    go_ret
    exact ⟨by first | rfl | (simp [errW_none, errW_some] <;> rfl) | (simp [*, errW_none, errW_some] <;> rfl), by exact lB HB.out⟩
 ·replace c4 := Bool.eq_false_iff.mpr c4
  subst c4
  have H1 : (some false) = some r := by rw [if_neg (show ¬ (false = true) by decide)] at H; exact H
  clear H
  have H := H1
  clear H1
  obtain rfl := Option.some.inj H
  go_enter Try.func4, Try.ntmps4
  go_wp2_with (first | ((with_reducible refine gate_callee (f := 6) rfl ?_); refine goesL_ (some 9) rfl rfl Try.func6 (by kernel_rfl) rfl #[] rfl (by (try simp only [List.map_toArray, List.map_cons, List.map_nil]); first | done | rfl | (simp only [List.length_drop, List.length_take]; rfl)) ?_; (with_reducible refine (pochoirlaw40_awake.calls k  false _ A3.out).mono ?_); rintro e a3 ⟨rfl, hb⟩; refine ⟨_, rfl, ?_⟩; have ab := Aside0.mk (below_step (by exact lB HB.out) hb); clear HB; have HB := ab; clear ab; (try clear hb); (try clear an); (try clear hk); (try clear hi)))
  go_ret
  exact ⟨by first | rfl | (simp [errW_none, errW_some] <;> rfl) | (simp [*, errW_none, errW_some] <;> rfl), by exact lB HB.out⟩

/-- THE ONE PURE STATEMENT of pochoirlaw40_KernAny: yours. -/
def pochoirlaw40_KernAny.Pure : Prop := ∀ (a0 : ByteArray) (a1 : Int), a0.size ≤ 140737488351232 → (Lit.int .i64 a1).wf = true → ∃ k, pochoirlaw40_KernAny.f k a0 a1 = some true
theorem pochoirlaw40_KernAny.walk (P : pochoirlaw40_KernAny.Pure) (a0 : ByteArray) (a1 : Int) (w : World) (w0 : a0.size ≤ 140737488351232) (w1 : (Lit.int .i64 a1).wf = true) :
  Calls Try.prog 4 #[.string a0, .int .i64 a1] w fun e w' => e = .returned (.bool true) ∧ Below w.heap.size w w' := by
 obtain ⟨k, h⟩ := P a0 a1 w0 w1
 refine (pochoirlaw40_KernAny.calls k a0 a1 true w h).mono ?_
 rintro e w' ⟨rfl, hd⟩
 exact ⟨rfl, hd⟩

end Go.Proofs.Ythnojbbfmcapnaa.Pr
