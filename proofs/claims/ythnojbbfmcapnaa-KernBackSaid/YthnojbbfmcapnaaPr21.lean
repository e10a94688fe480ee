-- printed by a program of this session's (wip/mp.sh), out of the translation; the texts of its folder 'given' are typed by hand
-- shortened (wip/short.py)
import Derived.Test.YthnojbbfmcapnaaPr0
import Derived.Test.YthnojbbfmcapnaaPr6
import Derived.Test.YthnojbbfmcapnaaPr12
import Derived.Test.YthnojbbfmcapnaaPr14
import Derived.Test.YthnojbbfmcapnaaPr18
import Derived.Test.YthnojbbfmcapnaaPr20
namespace Go.Proofs.Ythnojbbfmcapnaa.Pr
open Go.RowKit Go.Proofs.YthnojbbfmcapnaaW.PrintWords Go.Proofs.YthnojbbfmcapnaaW.PrintLast Go.Proofs.YthnojbbfmcapnaaW.PrintMore
attribute [local go_sem] max2_int min2_int max_two min_two max_three min_three max_four min_four   -- for this text's walks alone
set_option linter.unusedVariables false
set_option linter.unusedSimpArgs false

/-! ### pochoirlaw40_awake: function 6 -/
theorem pochoirlaw40_eq3 (a a' b b' c c' : Int) (w : World) :
  (if a = a' then if b = b' then if c = c' then (Result.ok (Next.value (Value.bool true)) w : Result Next) else Result.ok (Next.value (Value.bool false)) w else Result.ok (Next.value (Value.bool false)) w else Result.ok (Next.value (Value.bool false)) w) = Result.ok (Next.value (Value.bool ((a == a') && ((b == b') && (c == c'))))) w := by
 by_cases h1 : a = a' <;> by_cases h2 : b = b' <;> by_cases h3 : c = c' <;> simp [h1, h2, h3]
def pochoirlaw40_awake.g (k : Nat)  : Option (Bool) := (some (([(⟨1, 2, (-5)⟩ : S41)] : List (S41)) : List (S41))).bind fun aa => ((kern_Make.f k aa).bind fun am => ((kern_Parse.f k am.1 3).bind fun ae => ((kern_Shift.f k aa (([(⟨1, 0, 0⟩ : S43), (⟨2, 9, 0⟩ : S43), (⟨2, 18, 0⟩ : S43)] : List (S43)))).bind fun ab => (if am.2 = 0 then (if (am.1.size : Int) = 24 then (if ae.2 = 0 then (if (ae.1.length : Int) = 1 then (if 0 < (ae.1.length : Int) then (if 0 < (aa.length : Int) then (if (((rd_T41 ae.1 0).f0) == ((rd_T41 aa 0).f0) && (((rd_T41 ae.1 0).f1) == ((rd_T41 aa 0).f1) && (((rd_T41 ae.1 0).f2) == ((rd_T41 aa 0).f2)))) = true then (if (ab.length : Int) = 3 then (if 1 < (ab.length : Int) then (if ((rd_T43 ab 1).f1) = 4 then (if 2 < (ab.length : Int) then (if ((rd_T43 ab 2).f1) = 13 then ((kern_By.f k aa 1 2).bind fun ah => (if ah = (-5) then ((kern_May.f k aa 3).bind fun ai => (some ai)) else (some false))) else (some false)) else (none)) else (some false)) else (none)) else (some false)) else (some false)) else (none)) else (none)) else (some false)) else (some false)) else (some false)) else (some false)))))
theorem pochoirlaw40_awake.gmono : ∀ k, LeO (pochoirlaw40_awake.g k ) (pochoirlaw40_awake.g (k + 1) ) := by
 intro  k
 unfold pochoirlaw40_awake.g
 repeat' first
   | (with_reducible exact kern_By.mono _ _ _ _)
   | (with_reducible exact kern_Make.mono _ _)
   | (with_reducible exact kern_May.mono _ _ _)
   | (with_reducible exact kern_Parse.mono _ _ _)
   | (with_reducible exact kern_Shift.mono _ _ _)
   | (with_reducible exact LeO.refl _)
   | (with_reducible exact LeO.none _)
   | (with_reducible refine LeO.ite ?_ ?_)
   | (with_reducible refine LeO.bind ?_ (fun _ => ?_))
   | exact kern_By.mono _ _ _ _
   | exact kern_Make.mono _ _
   | exact kern_May.mono _ _ _
   | exact kern_Parse.mono _ _ _
   | exact kern_Shift.mono _ _ _
   | exact LeO.none _
   | refine LeO.ite ?_ ?_
   | refine LeO.bind ?_ (fun _ => ?_)
def pochoirlaw40_awake.T5 : Bool × List (List Nat × List Nat) := (true, [([], []), ([0], [0]), ([1], [1]), ([2], [2]), ([3, 2], [2, 3]), ([4, 2], [2, 4]), ([2, 5], [2, 5]), ([6, 2], [6]), ([7], [7]), ([8, 7], [7, 8]), ([7, 9], [7, 9]), ([10, 7], [10]), ([11], [11]), ([12, 11], [11, 12]), ([13, 11], [11, 13]), ([11, 14], [11, 14]), ([15, 11], [15]), ([16], [16]), ([17, 16], [16, 17]), ([18, 16], [16, 18]), ([16], [16]), ([20, 16], [16, 20]), ([21, 16], [16, 21]), ([19, 22, 16], [16, 19, 22]), ([16, 23], [16, 23]), ([24, 16], [24]), ([25], [25]), ([26, 25], [25, 26]), ([27, 25], [25, 27]), ([25, 28], [25, 28]), ([29, 25], [29]), ([30], [30]), ([31, 30], [30, 31]), ([32, 30], [30, 32]), ([33, 30], [30, 33]), ([34, 30], [30, 34]), ([30, 35], [30, 35]), ([36, 30], [36]), ([37], [37]), ([38, 37], [37, 38]), ([39, 37], [37, 39]), ([40, 37], [37, 40]), ([41, 37], [37, 41]), ([37, 42], [37, 42]), ([43, 37], [43]), ([44], [44]), ([45, 44, 44], [44, 45]), ([46, 44], [44, 46]), ([44, 47], [44, 47]), ([48, 46], [48]), ([49], [49]), ([50, 49, 49], [49, 50]), ([49, 51], [49, 51]), ([52, 51, 0, 1, 2, 3, 4, 5, 6, 7, 8, 9, 10, 11, 12, 13, 14, 15, 16, 17, 18, 19, 20, 21, 22, 23, 24, 25, 26, 27, 28, 29, 30, 31, 32, 33, 34, 35, 36, 37, 38, 39, 40, 41, 42, 43, 44, 45, 46, 47, 48, 49, 50, 51, 52], [52])])
def pochoirlaw40_awake.B5 : List Nat := [0, 1, 3, 7, 15, 31, 63, 127, 255, 511, 1023, 2047, 4095, 8191, 16383, 32767, 65535, 131071, 262143, 524287, 131071, 1179647, 3276799, 8388607, 16777215, 33554431, 67108863, 134217727, 268435455, 536870911, 1073741823, 2147483647, 4294967295, 8589934591, 17179869183, 34359738367, 68719476735, 137438953471, 274877906943, 549755813887, 1099511627775, 2199023255551, 4398046511103, 8796093022207, 17592186044415, 35184372088831, 70368744177663, 140737488355327, 281474976710655, 562949953421311, 1125899906842623, 2251799813685247, 4503599627370495, 9007199254740991]
theorem pochoirlaw40_awake.tab5 : rtab .any (opsOf Try.f6 5) = pochoirlaw40_awake.T5 := by kernel_rfl
theorem pochoirlaw40_awake.bits5 : waitsOk pochoirlaw40_awake.T5.2 pochoirlaw40_awake.B5 = true := by kernel_rfl
set_option maxHeartbeats 8000000 in
set_option maxRecDepth 100000 in
theorem pochoirlaw40_awake.gcalls (k : Nat)  (r : Bool) (w : World) (hkeep : r = true) (h : pochoirlaw40_awake.g k  = some r) :
  Calls Try.prog 6 #[] w fun e w' => e = .returned (.bool r) ∧ Below w.heap.size w w' := by
 have HKP := Aside0.mk hkeep
 clear hkeep
 have bh := Try.underlying41
 have bi := Try.underlying43
 have HB := Aside0.mk (Below.refl w.heap.size w)
 have H : ((some (([(⟨1, 2, (-5)⟩ : S41)] : List (S41)) : List (S41))).bind fun aa => ((kern_Make.f k aa).bind fun am => ((kern_Parse.f k am.1 3).bind fun ae => ((kern_Shift.f k aa (([(⟨1, 0, 0⟩ : S43), (⟨2, 9, 0⟩ : S43), (⟨2, 18, 0⟩ : S43)] : List (S43)))).bind fun ab => (if am.2 = 0 then (if (am.1.size : Int) = 24 then (if ae.2 = 0 then (if (ae.1.length : Int) = 1 then (if 0 < (ae.1.length : Int) then (if 0 < (aa.length : Int) then (if (((rd_T41 ae.1 0).f0) == ((rd_T41 aa 0).f0) && (((rd_T41 ae.1 0).f1) == ((rd_T41 aa 0).f1) && (((rd_T41 ae.1 0).f2) == ((rd_T41 aa 0).f2)))) = true then (if (ab.length : Int) = 3 then (if 1 < (ab.length : Int) then (if ((rd_T43 ab 1).f1) = 4 then (if 2 < (ab.length : Int) then (if ((rd_T43 ab 2).f1) = 13 then ((kern_By.f k aa 1 2).bind fun ah => (if ah = (-5) then ((kern_May.f k aa 3).bind fun ai => (some ai)) else (some false))) else (some false)) else (none)) else (some false)) else (none)) else (some false)) else (some false)) else (none)) else (none)) else (some false)) else (some false)) else (some false)) else (some false)))))) = some r := h
 clear h
 obtain ⟨aa, aH⟩ : ∃ y_ : List (S41), y_ = (([(⟨1, 2, (-5)⟩ : S41)] : List (S41))) := ⟨_, rfl⟩
 replace H : ((kern_Make.f k aa).bind fun am => ((kern_Parse.f k am.1 3).bind fun ae => ((kern_Shift.f k aa (([(⟨1, 0, 0⟩ : S43), (⟨2, 9, 0⟩ : S43), (⟨2, 18, 0⟩ : S43)] : List (S43)))).bind fun ab => (if am.2 = 0 then (if (am.1.size : Int) = 24 then (if ae.2 = 0 then (if (ae.1.length : Int) = 1 then (if 0 < (ae.1.length : Int) then (if 0 < (aa.length : Int) then (if (((rd_T41 ae.1 0).f0) == ((rd_T41 aa 0).f0) && (((rd_T41 ae.1 0).f1) == ((rd_T41 aa 0).f1) && (((rd_T41 ae.1 0).f2) == ((rd_T41 aa 0).f2)))) = true then (if (ab.length : Int) = 3 then (if 1 < (ab.length : Int) then (if ((rd_T43 ab 1).f1) = 4 then (if 2 < (ab.length : Int) then (if ((rd_T43 ab 2).f1) = 13 then ((kern_By.f k aa 1 2).bind fun ah => (if ah = (-5) then ((kern_May.f k aa 3).bind fun ai => (some ai)) else (some false))) else (some false)) else (none)) else (some false)) else (none)) else (some false)) else (some false)) else (none)) else (none)) else (some false)) else (some false)) else (some false)) else (some false))))) = some r := by first | (rw [aH]; with_reducible exact H) | (have H2_ := (Option.bind_some _ _).symm.trans H; rw [aH]; with_reducible exact H2_) | (have H2_ := (Option.bind_some _ _).symm.trans H; with_reducible exact H2_) | with_reducible exact H | (rw [aH]; exact H) | exact H
 have Ny184 := Aside0.mk aH
 clear aH
 replace H := Option.bind_eq_some_iff.mp H
 obtain ⟨⟨an, aq⟩, A10, H⟩ := H
 replace H : ((kern_Parse.f k an 3).bind fun ae => ((kern_Shift.f k aa (([(⟨1, 0, 0⟩ : S43), (⟨2, 9, 0⟩ : S43), (⟨2, 18, 0⟩ : S43)] : List (S43)))).bind fun ab => (if aq = 0 then (if (an.size : Int) = 24 then (if ae.2 = 0 then (if (ae.1.length : Int) = 1 then (if 0 < (ae.1.length : Int) then (if 0 < (aa.length : Int) then (if (((rd_T41 ae.1 0).f0) == ((rd_T41 aa 0).f0) && (((rd_T41 ae.1 0).f1) == ((rd_T41 aa 0).f1) && (((rd_T41 ae.1 0).f2) == ((rd_T41 aa 0).f2)))) = true then (if (ab.length : Int) = 3 then (if 1 < (ab.length : Int) then (if ((rd_T43 ab 1).f1) = 4 then (if 2 < (ab.length : Int) then (if ((rd_T43 ab 2).f1) = 13 then ((kern_By.f k aa 1 2).bind fun ah => (if ah = (-5) then ((kern_May.f k aa 3).bind fun ai => (some ai)) else (some false))) else (some false)) else (none)) else (some false)) else (none)) else (some false)) else (some false)) else (none)) else (none)) else (some false)) else (some false)) else (some false)) else (some false)))) = some r := H
 have A1 := Aside0.mk A10
 clear A10
 replace H := Option.bind_eq_some_iff.mp H
 obtain ⟨⟨ac, aF⟩, A20, H⟩ := H
 replace H : ((kern_Shift.f k aa (([(⟨1, 0, 0⟩ : S43), (⟨2, 9, 0⟩ : S43), (⟨2, 18, 0⟩ : S43)] : List (S43)))).bind fun ab => (if aq = 0 then (if (an.size : Int) = 24 then (if aF = 0 then (if (ac.length : Int) = 1 then (if 0 < (ac.length : Int) then (if 0 < (aa.length : Int) then (if (((rd_T41 ac 0).f0) == ((rd_T41 aa 0).f0) && (((rd_T41 ac 0).f1) == ((rd_T41 aa 0).f1) && (((rd_T41 ac 0).f2) == ((rd_T41 aa 0).f2)))) = true then (if (ab.length : Int) = 3 then (if 1 < (ab.length : Int) then (if ((rd_T43 ab 1).f1) = 4 then (if 2 < (ab.length : Int) then (if ((rd_T43 ab 2).f1) = 13 then ((kern_By.f k aa 1 2).bind fun ah => (if ah = (-5) then ((kern_May.f k aa 3).bind fun ai => (some ai)) else (some false))) else (some false)) else (none)) else (some false)) else (none)) else (some false)) else (some false)) else (none)) else (none)) else (some false)) else (some false)) else (some false)) else (some false))) = some r := H
 have A2 := Aside0.mk A20
 clear A20
 obtain ⟨aN, aI⟩ : ∃ y_ : List (S43), y_ = (([(⟨1, 0, 0⟩ : S43), (⟨2, 9, 0⟩ : S43), (⟨2, 18, 0⟩ : S43)] : List (S43))) := ⟨_, rfl⟩
 replace H : ((kern_Shift.f k aa aN).bind fun ab => (if aq = 0 then (if (an.size : Int) = 24 then (if aF = 0 then (if (ac.length : Int) = 1 then (if 0 < (ac.length : Int) then (if 0 < (aa.length : Int) then (if (((rd_T41 ac 0).f0) == ((rd_T41 aa 0).f0) && (((rd_T41 ac 0).f1) == ((rd_T41 aa 0).f1) && (((rd_T41 ac 0).f2) == ((rd_T41 aa 0).f2)))) = true then (if (ab.length : Int) = 3 then (if 1 < (ab.length : Int) then (if ((rd_T43 ab 1).f1) = 4 then (if 2 < (ab.length : Int) then (if ((rd_T43 ab 2).f1) = 13 then ((kern_By.f k aa 1 2).bind fun ah => (if ah = (-5) then ((kern_May.f k aa 3).bind fun ai => (some ai)) else (some false))) else (some false)) else (none)) else (some false)) else (none)) else (some false)) else (some false)) else (none)) else (none)) else (some false)) else (some false)) else (some false)) else (some false))) = some r := by first | (rw [aI]; with_reducible exact H) | (have H2_ := (Option.bind_some _ _).symm.trans H; rw [aI]; with_reducible exact H2_) | (have H2_ := (Option.bind_some _ _).symm.trans H; with_reducible exact H2_) | with_reducible exact H | (rw [aI]; exact H) | exact H
 have Ny193 := Aside0.mk aI
 clear aI
 replace H := Option.bind_eq_some_iff.mp H
 obtain ⟨ab, A30, H⟩ := H
 replace H : (if aq = 0 then (if (an.size : Int) = 24 then (if aF = 0 then (if (ac.length : Int) = 1 then (if 0 < (ac.length : Int) then (if 0 < (aa.length : Int) then (if (((rd_T41 ac 0).f0) == ((rd_T41 aa 0).f0) && (((rd_T41 ac 0).f1) == ((rd_T41 aa 0).f1) && (((rd_T41 ac 0).f2) == ((rd_T41 aa 0).f2)))) = true then (if (ab.length : Int) = 3 then (if 1 < (ab.length : Int) then (if ((rd_T43 ab 1).f1) = 4 then (if 2 < (ab.length : Int) then (if ((rd_T43 ab 2).f1) = 13 then ((kern_By.f k aa 1 2).bind fun ah => (if ah = (-5) then ((kern_May.f k aa 3).bind fun ai => (some ai)) else (some false))) else (some false)) else (none)) else (some false)) else (none)) else (some false)) else (some false)) else (none)) else (none)) else (some false)) else (some false)) else (some false)) else (some false)) = some r := H
 have A3 := Aside0.mk A30
 clear A30
 by_cases c4 : aq = 0
 ·rw [if_pos c4] at H
  have a1 : (aq == 0) = true := beq_iff_eq.mpr c4
  have a2 : (aq != 0) = false := bne_eq_false_iff_eq.mpr c4
  clear c4
  by_cases c5 : (an.size : Int) = 24
  ·rw [if_pos c5] at H
   have a3 : ((an.size : Int) == 24) = true := beq_iff_eq.mpr c5
   have a4 : ((an.size : Int) != 24) = false := bne_eq_false_iff_eq.mpr c5
   clear c5
   by_cases c6 : aF = 0
   ·rw [if_pos c6] at H
    have a5 : (aF == 0) = true := beq_iff_eq.mpr c6
    have a6 : (aF != 0) = false := bne_eq_false_iff_eq.mpr c6
    clear c6
    by_cases c7 : (ac.length : Int) = 1
    ·rw [if_pos c7] at H
     have a7 : ((ac.length : Int) == 1) = true := beq_iff_eq.mpr c7
     have a8 : ((ac.length : Int) != 1) = false := bne_eq_false_iff_eq.mpr c7
     clear c7
     by_cases c8 : 0 < (ac.length : Int)
     ·rw [if_pos c8] at H
      have bj : decide (0 < (ac.length : Int)) = true := decide_eq_true c8
      have bk : decide (0 < ac.length) = true := decide_eq_true (by omega)
      clear c8
      by_cases c9 : 0 < (aa.length : Int)
      ·rw [if_pos c9] at H
       have bl : decide (0 < (aa.length : Int)) = true := decide_eq_true c9
       have bm : decide (0 < aa.length) = true := decide_eq_true (by omega)
       clear c9
       by_cases c10 : (((rd_T41 ac 0).f0) == ((rd_T41 aa 0).f0) && (((rd_T41 ac 0).f1) == ((rd_T41 aa 0).f1) && (((rd_T41 ac 0).f2) == ((rd_T41 aa 0).f2)))) = true
       ·rw [if_pos c10] at H
        have aQ : (((rd_T41 ac 0).f0) == ((rd_T41 aa 0).f0) && (((rd_T41 ac 0).f1) == ((rd_T41 aa 0).f1) && (((rd_T41 ac 0).f2) == ((rd_T41 aa 0).f2)))) = true := c10
        (try (have aR : decide (((rd_T41 ac 0).f0) = ((rd_T41 aa 0).f0) && (((rd_T41 ac 0).f1) == ((rd_T41 aa 0).f1) && (((rd_T41 ac 0).f2) == ((rd_T41 aa 0).f2)))) = true := by simpa using c10))
        (try (have aS : (((rd_T41 ac 0).f0) == ((rd_T41 aa 0).f0) && (((rd_T41 ac 0).f1) == ((rd_T41 aa 0).f1) && (((rd_T41 ac 0).f2) == ((rd_T41 aa 0).f2)))) = true := by simpa using c10))
        clear c10
        by_cases c11 : (ab.length : Int) = 3
        ·rw [if_pos c11] at H
         have aT : ((ab.length : Int) == 3) = true := beq_iff_eq.mpr c11
         have aU : ((ab.length : Int) != 3) = false := bne_eq_false_iff_eq.mpr c11
         clear c11
         by_cases c12 : 1 < (ab.length : Int)
         ·rw [if_pos c12] at H
          have bc : decide (1 < (ab.length : Int)) = true := decide_eq_true c12
          have bd : decide (1 < ab.length) = true := decide_eq_true (by omega)
          clear c12
          by_cases c13 : ((rd_T43 ab 1).f1) = 4
          ·rw [if_pos c13] at H
           have aV : (((rd_T43 ab 1).f1) == 4) = true := beq_iff_eq.mpr c13
           have aW : (((rd_T43 ab 1).f1) != 4) = false := bne_eq_false_iff_eq.mpr c13
           clear c13
           by_cases c14 : 2 < (ab.length : Int)
           ·rw [if_pos c14] at H
            have be : decide (2 < (ab.length : Int)) = true := decide_eq_true c14
            have bf : decide (2 < ab.length) = true := decide_eq_true (by omega)
            clear c14
            by_cases c15 : ((rd_T43 ab 2).f1) = 13
            ·rw [if_pos c15] at H
             have aX : (((rd_T43 ab 2).f1) == 13) = true := beq_iff_eq.mpr c15
             have aY : (((rd_T43 ab 2).f1) != 13) = false := bne_eq_false_iff_eq.mpr c15
             clear c15
             replace H := Option.bind_eq_some_iff.mp H
             obtain ⟨ah, A160, H⟩ := H
             replace H : (if ah = (-5) then ((kern_May.f k aa 3).bind fun ai => (some ai)) else (some false)) = some r := H
             have A16 := Aside0.mk A160
             clear A160
             by_cases c17 : ah = (-5)
             ·rw [if_pos c17] at H
              have aZ : (ah == (-5)) = true := beq_iff_eq.mpr c17
              have a0 : (ah != (-5)) = false := bne_eq_false_iff_eq.mpr c17
              clear c17
              replace H := Option.bind_eq_some_iff.mp H
              obtain ⟨ai, A180, H⟩ := H
              replace H : (some ai) = some r := H
              have A18 := Aside0.mk A180
              clear A180
              obtain rfl := Option.some.inj H
              go_enter Try.func6, Try.ntmps6
              try go_wp2_with (first | ((with_reducible refine gate_dst (N := 8) rfl ?_); (try (refine gate_guard (by rfl) ?_; dsimp only)); refine Kd.R_lit k41 _ 41 ?hg (N := 8) ?hd (xs := ([(⟨1, 2, (-5)⟩ : S41)] : List (S41))) (inner := [.int .i64 1, .int .i64 2, .int .i64 (-5)]) (ok := fun _ => True) (okp := fun _ => True) ?hr ?hp (fun _ hk => hk) trivial (Below.refl _ _) (Nat.le_refl _) (by simp) ?_; (case hd => rfl); (case hg => rfl); (case hr => first | (go_simp; done) | (go_simp; rfl)); (case hp => exact (Reps.c3 (show Kd.M k41 _ _ _ (⟨1, 2, (-5)⟩ : S41) [.int .i64 1, .int .i64 2, .int .i64 (-5)] from (k41_mkM _ _ _ (⟨1, 2, (-5)⟩ : S41) )) (Reps.none _ _))); intro v185 br aJ hb hg_ hnew_; clear hg_ hnew_; (first | rw [← Ny184.out] at aJ | (simp only [Int.reduceToNat] at aJ; rw [← Ny184.out] at aJ)); have aj := Aside0.mk (Kd.R_lower aJ (below_size (by exact lB HB.out))); have ak := Aside0.mk (below_step (by exact lB HB.out) hb); clear HB; have ad := aj; have HB := ak; clear aj ak; clear hb aJ; obtain ⟨aP, aM, eo21⟩ := Kd.R_slice ad.out; subst eo21) | ((with_reducible refine gate_callee (f := 7) rfl ?_); refine goesL_ (some 11) rfl rfl Try.func7 (by kernel_rfl) rfl #[.slice aP aa.length aM] rfl (by (try simp only [List.map_toArray, List.map_cons, List.map_nil]); first | done | rfl | (simp only [List.length_drop, List.length_take]; rfl)) ?_; (with_reducible refine (kern_Make.calls k _ _ aa an aq _ ?side1 ?side2 A1.out).mono ?_); (case side1 => repeat (first | exact (Kd.R_reads' ad.out).2.2 | (with_reducible refine Kd.C_alloc ?_ _) | (with_reducible refine Kd.C_drewN ?_ _) | (with_reducible refine Kd.C_drew ?_))); (case side2 => exact (Kd.R_reads' ad.out).2.1); rintro e bs ⟨rfl, hb⟩; refine ⟨_, rfl, ?_⟩; have aj := Aside0.mk (Kd.R_below (by (with_reducible repeat (first | apply Kd.R_alloc | apply Kd.R_drewN | apply Kd.R_drew)); exact ad.out) hb); have ak := Aside0.mk (below_step (by exact lB HB.out) hb); clear ad; clear HB; have ad := aj; have HB := ak; clear aj ak; (try clear hb); (try clear aO); (try clear hk); (try clear hi)) | ((with_reducible refine gate_callee (f := 13) rfl ?_); refine goesL_ (some 16) rfl rfl Try.func13 (by kernel_rfl) rfl #[.string an, .int .i64 3] rfl (by (try simp only [List.map_toArray, List.map_cons, List.map_nil]); first | done | rfl | (simp only [List.length_drop, List.length_take]; rfl)) ?_; (with_reducible refine (kern_Parse.calls k an 3 ac aF _ A2.out).mono ?_); rintro e bu ⟨v191, rfl, aK, hb⟩; refine ⟨_, rfl, ?_⟩; have aj := Aside0.mk (Kd.R_elder' (by (with_reducible repeat (first | apply Kd.R_alloc | apply Kd.R_drewN | apply Kd.R_drew)); exact ad.out) (Kd.R_base aK) hb); have ak := Aside0.mk (Kd.R_lower (Kd.R_new' aK (Kd.R_lt (by (with_reducible repeat (first | apply Kd.R_alloc | apply Kd.R_drewN | apply Kd.R_drew)); exact ad.out))) (below_size (by exact lB HB.out))); have ao := Aside0.mk (below_step (by exact lB HB.out) hb); clear ad; clear HB; have ad := aj; have af := ak; have HB := ao; clear aj ak ao; (try clear hb); (try clear aO); (try clear hk); (try clear hi); (try clear aK)) | ((with_reducible refine gate_dst (N := 23) rfl ?_); (try (refine gate_guard (by rfl) ?_; dsimp only)); refine Kd.R_lit k43 _ 43 ?hg (N := 23) ?hd (xs := ([(⟨1, 0, 0⟩ : S43), (⟨2, 9, 0⟩ : S43), (⟨2, 18, 0⟩ : S43)] : List (S43))) (inner := [.int .i64 1, .int .i64 0, .int .i64 0, .int .i64 2, .int .i64 9, .int .i64 0, .int .i64 2, .int .i64 18, .int .i64 0]) (ok := fun _ => True) (okp := fun _ => True) ?hr ?hp (fun _ hk => hk) trivial (Below.refl _ _) (Nat.le_refl _) (by simp) ?_; (case hd => rfl); (case hg => rfl); (case hr => first | (go_simp; done) | (go_simp; rfl)); (case hp => exact (Reps.c3 (show Kd.M k43 _ _ _ (⟨1, 0, 0⟩ : S43) [.int .i64 1, .int .i64 0, .int .i64 0] from (k43_mkM _ _ _ (⟨1, 0, 0⟩ : S43) )) (Reps.c3 (show Kd.M k43 _ _ _ (⟨2, 9, 0⟩ : S43) [.int .i64 2, .int .i64 9, .int .i64 0] from (k43_mkM _ _ _ (⟨2, 9, 0⟩ : S43) )) (Reps.c3 (show Kd.M k43 _ _ _ (⟨2, 18, 0⟩ : S43) [.int .i64 2, .int .i64 18, .int .i64 0] from (k43_mkM _ _ _ (⟨2, 18, 0⟩ : S43) )) (Reps.none _ _))))); intro v194 bv aL hb hg_ hnew_; clear hg_ hnew_; (first | rw [← Ny193.out] at aL | (simp only [Int.reduceToNat] at aL; rw [← Ny193.out] at aL)); have aj := Aside0.mk (Kd.R_below (by (with_reducible repeat (first | apply Kd.R_alloc | apply Kd.R_drewN | apply Kd.R_drew)); exact ad.out) hb); have ak := Aside0.mk (Kd.R_below (by (with_reducible repeat (first | apply Kd.R_alloc | apply Kd.R_drewN | apply Kd.R_drew)); exact af.out) hb); have ao := Aside0.mk (Kd.R_lower aL (below_size (by exact lB HB.out))); have ap := Aside0.mk (below_step (by exact lB HB.out) hb); clear ad; clear af; clear HB; have ad := aj; have af := ak; have ag := ao; have HB := ap; clear aj ak ao ap; clear hb aL; obtain ⟨a9, ba, eo26⟩ := Kd.R_slice ag.out; subst eo26) | ((with_reducible refine gate_callee (f := 17) rfl ?_); refine goesL_ (some 24) rfl rfl Try.func17 (by kernel_rfl) rfl #[.slice aP aa.length aM, .slice a9 aN.length ba] rfl (by (try simp only [List.map_toArray, List.map_cons, List.map_nil]); first | done | rfl | (simp only [List.length_drop, List.length_take]; rfl)) ?_; (with_reducible refine (kern_Shift.calls k _ _ aa _ _ aN ab _ ?side1 ?side2 ?side3 ?side4 A3.out).mono ?_); (case side1 => repeat (first | exact (Kd.R_reads' ad.out).2.2 | (with_reducible refine Kd.C_alloc ?_ _) | (with_reducible refine Kd.C_drewN ?_ _) | (with_reducible refine Kd.C_drew ?_))); (case side2 => exact (Kd.R_reads' ad.out).2.1); (case side3 => repeat (first | exact (Kd.R_reads' ag.out).2.2 | (with_reducible refine Kd.C_alloc ?_ _) | (with_reducible refine Kd.C_drewN ?_ _) | (with_reducible refine Kd.C_drew ?_))); (case side4 => exact (Kd.R_reads' ag.out).2.1); rintro e bb ⟨v197, rfl, aK, hb⟩; refine ⟨_, rfl, ?_⟩; have aj := Aside0.mk (Kd.R_below (by (with_reducible repeat (first | apply Kd.R_alloc | apply Kd.R_drewN | apply Kd.R_drew)); exact ad.out) hb); have ak := Aside0.mk (Kd.R_below (by (with_reducible repeat (first | apply Kd.R_alloc | apply Kd.R_drewN | apply Kd.R_drew)); exact af.out) hb); have ao := Aside0.mk (Kd.R_elder' (by (with_reducible repeat (first | apply Kd.R_alloc | apply Kd.R_drewN | apply Kd.R_drew)); exact ag.out) (Kd.R_base aK) hb); have ap := Aside0.mk (Kd.R_lower (Kd.R_new' aK (Kd.R_lt (by (with_reducible repeat (first | apply Kd.R_alloc | apply Kd.R_drewN | apply Kd.R_drew)); exact ag.out))) (below_size (by exact lB HB.out))); have aG := Aside0.mk (below_step (by exact lB HB.out) hb); clear ad; clear af; clear ag; clear HB; have ad := aj; have af := ak; have ag := ao; have al := ap; have HB := aG; clear aj ak ao ap aG; (try clear hb); (try clear aO); (try clear hk); (try clear hi); (try clear aK)))
              have aj := Aside0.mk (Kd.R_drew ad.out)
              have ak := Aside0.mk (Kd.R_drew af.out)
              have ao := Aside0.mk (Kd.R_drew ag.out)
              have ap := Aside0.mk (Kd.R_drew al.out)
              have aG := Aside0.mk (below_drew1 HB.out)
              clear ad
              clear af
              clear ag
              clear al
              clear HB
              have ad := aj
              have af := ak
              have ag := ao
              have al := ap
              have HB := aG
              clear aj ak ao ap aG
              obtain ⟨bn, bo, eo29⟩ := Kd.R_slice af.out
              (first | subst eo29 | (injection eo29 with f1_ f2_ f3_; have f4_ := f1_.symm; have f5_ := f3_.symm; clear f1_ f2_ f3_; subst f4_; subst f5_))
              have p199 : 0 ≤ (0 : Int) := (by omega)
              have q199 : 0 < (ac.length : Int) := of_decide_eq_true (by first | (with_reducible assumption) | assumption)
              obtain ⟨ad199, e199, ar, au, av⟩ := at_T41 (Kd.R_reads' af.out).2.2 0 p199 q199
              cases e199
              have qi199 : (0 < ac.length) = True := eq_true (by omega)
              (try rw [show ((0 : Int)).toNat = 0 from rfl] at ar)
              (try rw [show 0 * 3 = 0 from rfl] at ar)
              (try rw [Addr.add_zero'] at ar)
              (try rw [show ((0 : Int)).toNat = 0 from rfl] at au)
              (try rw [show 0 * 3 = 0 from rfl] at au)
              (try rw [Addr.add_zero'] at au)
              (try rw [show ((0 : Int)).toNat = 0 from rfl] at av)
              (try rw [show 0 * 3 = 0 from rfl] at av)
              (try rw [Addr.add_zero'] at av)
              replace p199 := eq_true p199
              replace q199 := eq_true q199
              have p200 : 0 ≤ (0 : Int) := (by omega)
              have q200 : 0 < (aa.length : Int) := of_decide_eq_true (by first | (with_reducible assumption) | assumption)
              obtain ⟨ad200, e200, aw, ax, ay⟩ := at_T41 (Kd.R_reads' ad.out).2.2 0 p200 q200
              cases e200
              have qi200 : (0 < aa.length) = True := eq_true (by omega)
              (try rw [show ((0 : Int)).toNat = 0 from rfl] at aw)
              (try rw [show 0 * 3 = 0 from rfl] at aw)
              (try rw [Addr.add_zero'] at aw)
              (try rw [show ((0 : Int)).toNat = 0 from rfl] at ax)
              (try rw [show 0 * 3 = 0 from rfl] at ax)
              (try rw [Addr.add_zero'] at ax)
              (try rw [show ((0 : Int)).toNat = 0 from rfl] at ay)
              (try rw [show 0 * 3 = 0 from rfl] at ay)
              (try rw [Addr.add_zero'] at ay)
              replace p200 := eq_true p200
              replace q200 := eq_true q200
              obtain ⟨bp, bq, eo30⟩ := Kd.R_slice al.out
              (first | subst eo30 | (injection eo30 with f1_ f2_ f3_; have f4_ := f1_.symm; have f5_ := f3_.symm; clear f1_ f2_ f3_; subst f4_; subst f5_))
              have p201 : 0 ≤ (1 : Int) := (by omega)
              have q201 : 1 < (ab.length : Int) := of_decide_eq_true (by first | (with_reducible assumption) | assumption)
              obtain ⟨ad201, e201, az, aA, aB⟩ := at_T43 (Kd.R_reads' al.out).2.2 1 p201 q201
              cases e201
              (try simp only [show (1 : Int).toNat = 1 from rfl, Nat.reduceMul, Nat.reduceEqDiff, Go.Addr.add, ↓reduceIte] at az)
              (try simp only [show (1 : Int).toNat = 1 from rfl, Nat.reduceMul, Nat.reduceEqDiff, Go.Addr.add, ↓reduceIte] at aA)
              (try simp only [show (1 : Int).toNat = 1 from rfl, Nat.reduceMul, Nat.reduceEqDiff, Go.Addr.add, ↓reduceIte] at aB)
              have qi201 : (1 < ab.length) = True := eq_true (by omega)
              (try rw [show ((1 : Int)).toNat = 1 from rfl] at az)
              (try rw [show 1 * 3 = 3 from rfl] at az)
              (try rw [show ((1 : Int)).toNat = 1 from rfl] at aA)
              (try rw [show 1 * 3 = 3 from rfl] at aA)
              (try rw [show ((1 : Int)).toNat = 1 from rfl] at aB)
              (try rw [show 1 * 3 = 3 from rfl] at aB)
              replace p201 := eq_true p201
              replace q201 := eq_true q201
              have p202 : 0 ≤ (2 : Int) := (by omega)
              have q202 : 2 < (ab.length : Int) := of_decide_eq_true (by first | (with_reducible assumption) | assumption)
              obtain ⟨ad202, e202, aC, aD, aE⟩ := at_T43 (Kd.R_reads' al.out).2.2 2 p202 q202
              obtain rfl : ad201 = ad202 := (by injection e202)
              (try simp only [show (2 : Int).toNat = 2 from rfl, Nat.reduceMul, Nat.reduceEqDiff, Go.Addr.add, ↓reduceIte] at aC)
              (try simp only [show (2 : Int).toNat = 2 from rfl, Nat.reduceMul, Nat.reduceEqDiff, Go.Addr.add, ↓reduceIte] at aD)
              (try simp only [show (2 : Int).toNat = 2 from rfl, Nat.reduceMul, Nat.reduceEqDiff, Go.Addr.add, ↓reduceIte] at aE)
              have qi202 : (2 < ab.length) = True := eq_true (by omega)
              (try rw [show ((2 : Int)).toNat = 2 from rfl] at aC)
              (try rw [show 2 * 3 = 6 from rfl] at aC)
              (try rw [show ((2 : Int)).toNat = 2 from rfl] at aD)
              (try rw [show 2 * 3 = 6 from rfl] at aD)
              (try rw [show ((2 : Int)).toNat = 2 from rfl] at aE)
              (try rw [show 2 * 3 = 6 from rfl] at aE)
              replace p202 := eq_true p202
              replace q202 := eq_true q202
              refine start_ (n := 54) (S := fun w' => w'.cell? ad199 = some (.int .i64 ((rd_T41 ac 0).f0)) ∧ w'.cell? ⟨ad199.block, ad199.off + 1, none⟩ = some (.int .i64 ((rd_T41 ac 0).f1)) ∧ w'.cell? ⟨ad199.block, ad199.off + 2, none⟩ = some (.int .i64 ((rd_T41 ac 0).f2)) ∧ w'.cell? ad200 = some (.int .i64 ((rd_T41 aa 0).f0)) ∧ w'.cell? ⟨ad200.block, ad200.off + 1, none⟩ = some (.int .i64 ((rd_T41 aa 0).f1)) ∧ w'.cell? ⟨ad200.block, ad200.off + 2, none⟩ = some (.int .i64 ((rd_T41 aa 0).f2)) ∧ w'.cell? ⟨ad201.block, ad201.off + 3, none⟩ = some (.int .i64 ((rd_T43 ab 1).f0)) ∧ w'.cell? ⟨ad201.block, ad201.off + 3 + 1, none⟩ = some (.int .i64 ((rd_T43 ab 1).f1)) ∧ w'.cell? ⟨ad201.block, ad201.off + 3 + 2, none⟩ = some (.int .i64 ((rd_T43 ab 1).f2)) ∧ w'.cell? ⟨ad201.block, ad201.off + 6, none⟩ = some (.int .i64 ((rd_T43 ab 2).f0)) ∧ w'.cell? ⟨ad201.block, ad201.off + 6 + 1, none⟩ = some (.int .i64 ((rd_T43 ab 2).f1)) ∧ w'.cell? ⟨ad201.block, ad201.off + 6 + 2, none⟩ = some (.int .i64 ((rd_T43 ab 2).f2))) (ds := []) #[false, false, false, false, false, false, false, false, false, false, false, false, false, false, false, false, false, false, false, false, false, false, false, false, false, false, false, false, false, false, false, false, false, false, false, false, false, false, false, false, false, false, false, false, false, false, false, false, false, false, false, false, false, false] (by kernel_rfl) rfl rfl ⟨ar, au, av, aw, ax, ay, az, aA, aB, aC, aD, aE⟩ (fun hHeld => ?_); refine with_tabW pochoirlaw40_awake.tab5 pochoirlaw40_awake.bits5 (fun HT_ HW_ => ?_)
              generalize bb.drew = bw at ad af ag al HB ar au av aw ax ay az aA aB aC aD aE hHeld ⊢
              refine pure_ (i := 0) (N := some 25) (v := ?_) (a' := ?_) #[true, false, false, false, false, false, false, false, false, false, false, false, false, false, false, false, false, false, false, false, false, false, false, false, false, false, false, false, false, false, false, false, false, false, false, false, false, false, false, false, false, false, false, false, false, false, false, false, false, false, false, false, false, false] rfl rfl (any_of HT_.out (by kernel_rfl)) (fun _ _ _ h => h) (Or.inl ⟨by rfl, ?_⟩) ?_ ?_
              rotate_left
              ·intro w'
               go_simp
               with_reducible rfl
              rotate_left
              ·exact pA
              refine pure_ (i := 1) (N := some 26) (v := ?_) (a' := ?_) #[true, true, false, false, false, false, false, false, false, false, false, false, false, false, false, false, false, false, false, false, false, false, false, false, false, false, false, false, false, false, false, false, false, false, false, false, false, false, false, false, false, false, false, false, false, false, false, false, false, false, false, false, false, false] rfl rfl (any_of HT_.out (by kernel_rfl)) (fun _ _ _ h => h) (Or.inl ⟨by rfl, ?_⟩) ?_ ?_
              rotate_left
              ·intro w'
               go_simp
               with_reducible rfl
              rotate_left
              ·exact pA
              refine pure_ (i := 2) (N := some 27) (v := ?_) (a' := ?_) #[true, true, true, false, false, false, false, false, false, false, false, false, false, false, false, false, false, false, false, false, false, false, false, false, false, false, false, false, false, false, false, false, false, false, false, false, false, false, false, false, false, false, false, false, false, false, false, false, false, false, false, false, false, false] rfl rfl (any_of HT_.out (by kernel_rfl)) (fun _ _ _ h => h) (Or.inl ⟨by rfl, ?_⟩) ?_ ?_
              rotate_left
              ·intro w'
               go_simp
               with_reducible rfl
              rotate_left
              ·exact pA
              refine pure_ (i := 3) (N := some 28) (v := ?_) (a' := ?_) #[true, true, true, true, false, false, false, false, false, false, false, false, false, false, false, false, false, false, false, false, false, false, false, false, false, false, false, false, false, false, false, false, false, false, false, false, false, false, false, false, false, false, false, false, false, false, false, false, false, false, false, false, false, false] rfl rfl (any_of HT_.out (by kernel_rfl)) (fun _ _ _ h => h) (Or.inl ⟨by rfl, ?_⟩) ?_ ?_
              rotate_left
              ·intro w'
               go_simp
               with_reducible rfl
              rotate_left
              ·exact pA
              refine pure_ (i := 4) (N := some 29) (v := ?_) (a' := ?_) #[true, true, true, true, true, false, false, false, false, false, false, false, false, false, false, false, false, false, false, false, false, false, false, false, false, false, false, false, false, false, false, false, false, false, false, false, false, false, false, false, false, false, false, false, false, false, false, false, false, false, false, false, false, false] rfl rfl (any_of HT_.out (by kernel_rfl)) (fun _ _ _ h => h) (Or.inl ⟨by rfl, ?_⟩) ?_ ?_
              rotate_left
              ·intro w'
               go_simp
               with_reducible rfl
              rotate_left
              ·exact pA
              refine pure_ (i := 5) (N := some 30) (v := ?_) (a' := ?_) #[true, true, true, true, true, true, false, false, false, false, false, false, false, false, false, false, false, false, false, false, false, false, false, false, false, false, false, false, false, false, false, false, false, false, false, false, false, false, false, false, false, false, false, false, false, false, false, false, false, false, false, false, false, false] rfl rfl (any_of HT_.out (by kernel_rfl)) (fun _ _ _ h => h) (Or.inl ⟨by rfl, ?_⟩) ?_ ?_
              rotate_left
              ·intro w'
               go_simp
               with_reducible rfl
              rotate_left
              ·exact pA
              refine pure_ (i := 6) (N := some 31) (v := ?_) (a' := ?_) #[true, true, true, true, true, true, true, false, false, false, false, false, false, false, false, false, false, false, false, false, false, false, false, false, false, false, false, false, false, false, false, false, false, false, false, false, false, false, false, false, false, false, false, false, false, false, false, false, false, false, false, false, false, false] rfl rfl (any_of HT_.out (by kernel_rfl)) (fun _ _ _ h => h) (Or.inl ⟨by rfl, ?_⟩) ?_ ?_
              rotate_left
              ·intro w'
               go_simp
               with_reducible rfl
              rotate_left
              ·exact pA
              refine pure_ (i := 7) (N := some 32) (v := ?_) (a' := ?_) #[true, true, true, true, true, true, true, true, false, false, false, false, false, false, false, false, false, false, false, false, false, false, false, false, false, false, false, false, false, false, false, false, false, false, false, false, false, false, false, false, false, false, false, false, false, false, false, false, false, false, false, false, false, false] rfl rfl (any_of HT_.out (by kernel_rfl)) (fun _ _ _ h => h) (Or.inl ⟨by rfl, ?_⟩) ?_ ?_
              rotate_left
              ·intro w'
               go_simp
               with_reducible rfl
              rotate_left
              ·exact pA
              refine pure_ (i := 8) (N := some 33) (v := ?_) (a' := ?_) #[true, true, true, true, true, true, true, true, true, false, false, false, false, false, false, false, false, false, false, false, false, false, false, false, false, false, false, false, false, false, false, false, false, false, false, false, false, false, false, false, false, false, false, false, false, false, false, false, false, false, false, false, false, false] rfl rfl (any_of HT_.out (by kernel_rfl)) (fun _ _ _ h => h) (Or.inl ⟨by rfl, ?_⟩) ?_ ?_
              rotate_left
              ·intro w'
               go_simp
               with_reducible rfl
              rotate_left
              ·exact pA
              refine pure_ (i := 9) (N := some 34) (v := ?_) (a' := ?_) #[true, true, true, true, true, true, true, true, true, true, false, false, false, false, false, false, false, false, false, false, false, false, false, false, false, false, false, false, false, false, false, false, false, false, false, false, false, false, false, false, false, false, false, false, false, false, false, false, false, false, false, false, false, false] rfl rfl (any_of HT_.out (by kernel_rfl)) (fun _ _ _ h => h) (Or.inl ⟨by rfl, ?_⟩) ?_ ?_
              rotate_left
              ·intro w'
               go_simp
               with_reducible rfl
              rotate_left
              ·exact pA
              refine pure_ (i := 10) (N := some 35) (v := ?_) (a' := ?_) #[true, true, true, true, true, true, true, true, true, true, true, false, false, false, false, false, false, false, false, false, false, false, false, false, false, false, false, false, false, false, false, false, false, false, false, false, false, false, false, false, false, false, false, false, false, false, false, false, false, false, false, false, false, false] rfl rfl (any_of HT_.out (by kernel_rfl)) (fun _ _ _ h => h) (Or.inl ⟨by rfl, ?_⟩) ?_ ?_
              rotate_left
              ·intro w'
               go_simp
               with_reducible rfl
              rotate_left
              ·exact pA
              refine pure_ (i := 11) (N := some 36) (v := ?_) (a' := ?_) #[true, true, true, true, true, true, true, true, true, true, true, true, false, false, false, false, false, false, false, false, false, false, false, false, false, false, false, false, false, false, false, false, false, false, false, false, false, false, false, false, false, false, false, false, false, false, false, false, false, false, false, false, false, false] rfl rfl (any_of HT_.out (by kernel_rfl)) (fun _ _ _ h => h) (Or.inl ⟨by rfl, ?_⟩) ?_ ?_
              rotate_left
              ·intro w'
               go_simp
               with_reducible rfl
              rotate_left
              ·exact pA
              refine pure_ (i := 12) (N := some 37) (v := ?_) (a' := ?_) #[true, true, true, true, true, true, true, true, true, true, true, true, true, false, false, false, false, false, false, false, false, false, false, false, false, false, false, false, false, false, false, false, false, false, false, false, false, false, false, false, false, false, false, false, false, false, false, false, false, false, false, false, false, false] rfl rfl (any_of HT_.out (by kernel_rfl)) (fun _ _ _ h => h) (Or.inl ⟨by rfl, ?_⟩) ?_ ?_
              rotate_left
              ·intro w'
               go_simp
               with_reducible rfl
              rotate_left
              ·exact pA
              refine pure_ (i := 13) (N := some 38) (v := ?_) (a' := ?_) #[true, true, true, true, true, true, true, true, true, true, true, true, true, true, false, false, false, false, false, false, false, false, false, false, false, false, false, false, false, false, false, false, false, false, false, false, false, false, false, false, false, false, false, false, false, false, false, false, false, false, false, false, false, false] rfl rfl (any_of HT_.out (by kernel_rfl)) (fun _ _ _ h => h) (Or.inl ⟨by rfl, ?_⟩) ?_ ?_
              rotate_left
              ·intro w'
               go_simp
               with_reducible rfl
              rotate_left
              ·exact pA
              refine pure_ (i := 14) (N := some 39) (v := ?_) (a' := ?_) #[true, true, true, true, true, true, true, true, true, true, true, true, true, true, true, false, false, false, false, false, false, false, false, false, false, false, false, false, false, false, false, false, false, false, false, false, false, false, false, false, false, false, false, false, false, false, false, false, false, false, false, false, false, false] rfl rfl (any_of HT_.out (by kernel_rfl)) (fun _ _ _ h => h) (Or.inl ⟨by rfl, ?_⟩) ?_ ?_
              rotate_left
              ·intro w'
               go_simp
               with_reducible rfl
              rotate_left
              ·exact pA
              refine pure_ (i := 15) (N := some 40) (v := ?_) (a' := ?_) #[true, true, true, true, true, true, true, true, true, true, true, true, true, true, true, true, false, false, false, false, false, false, false, false, false, false, false, false, false, false, false, false, false, false, false, false, false, false, false, false, false, false, false, false, false, false, false, false, false, false, false, false, false, false] rfl rfl (any_of HT_.out (by kernel_rfl)) (fun _ _ _ h => h) (Or.inl ⟨by rfl, ?_⟩) ?_ ?_
              rotate_left
              ·intro w'
               go_simp
               with_reducible rfl
              rotate_left
              ·exact pA
              refine pure_ (i := 16) (N := some 41) (v := ?_) (a' := ?_) #[true, true, true, true, true, true, true, true, true, true, true, true, true, true, true, true, true, false, false, false, false, false, false, false, false, false, false, false, false, false, false, false, false, false, false, false, false, false, false, false, false, false, false, false, false, false, false, false, false, false, false, false, false, false] rfl rfl (any_of HT_.out (by kernel_rfl)) (fun _ _ _ h => h) (Or.inl ⟨by rfl, ?_⟩) ?_ ?_
              rotate_left
              ·intro w'
               go_simp
               with_reducible rfl
              rotate_left
              ·exact pA
              refine pure_ (i := 17) (N := some 42) (v := ?_) (a' := ?_) #[true, true, true, true, true, true, true, true, true, true, true, true, true, true, true, true, true, true, false, false, false, false, false, false, false, false, false, false, false, false, false, false, false, false, false, false, false, false, false, false, false, false, false, false, false, false, false, false, false, false, false, false, false, false] rfl rfl (any_of HT_.out (by kernel_rfl)) (fun _ _ _ h => h) (Or.inl ⟨by rfl, ?_⟩) ?_ ?_
              rotate_left
              ·intro w'
               go_simp
               with_reducible rfl
              rotate_left
              ·exact pA
              refine pure_ (i := 18) (N := some 43) (v := ?_) (a' := ?_) #[true, true, true, true, true, true, true, true, true, true, true, true, true, true, true, true, true, true, true, false, false, false, false, false, false, false, false, false, false, false, false, false, false, false, false, false, false, false, false, false, false, false, false, false, false, false, false, false, false, false, false, false, false, false] rfl rfl (any_of HT_.out (by kernel_rfl)) (fun _ _ _ h => h) (Or.inl ⟨by rfl, ?_⟩) ?_ ?_
              rotate_left
              ·intro w'
               go_simp
               with_reducible rfl
              rotate_left
              ·exact pA
              refine pure_ (i := 20) (N := some 45) (v := ?_) (a' := ?_) #[true, true, true, true, true, true, true, true, true, true, true, true, true, true, true, true, true, true, true, false, true, false, false, false, false, false, false, false, false, false, false, false, false, false, false, false, false, false, false, false, false, false, false, false, false, false, false, false, false, false, false, false, false, false] rfl rfl (any_of HT_.out (by kernel_rfl)) (fun _ _ _ h => h) (Or.inl ⟨by rfl, ?_⟩) ?_ ?_
              rotate_left
              ·intro w'
               go_simp
               with_reducible rfl
              rotate_left
              ·exact pA
              refine pure_ (i := 21) (N := some 46) (v := ?_) (a' := ?_) #[true, true, true, true, true, true, true, true, true, true, true, true, true, true, true, true, true, true, true, false, true, true, false, false, false, false, false, false, false, false, false, false, false, false, false, false, false, false, false, false, false, false, false, false, false, false, false, false, false, false, false, false, false, false] rfl rfl (any_of HT_.out (by kernel_rfl)) (fun _ _ _ h => h) (Or.inl ⟨by rfl, ?_⟩) ?_ ?_
              rotate_left
              ·intro w'
               go_simp
               with_reducible rfl
              rotate_left
              ·exact pA
              refine take_ (i := 19) (N := some 44) (v := ?_) (a' := ?_) #[true, true, true, true, true, true, true, true, true, true, true, true, true, true, true, true, true, true, true, true, true, true, false, false, false, false, false, false, false, false, false, false, false, false, false, false, false, false, false, false, false, false, false, false, false, false, false, false, false, false, false, false, false, false] rfl rfl (take_ofW HT_.out HW_.out (by kernel_rfl)) (fun _ _ _ h => h) (Or.inl ⟨by rfl, ?_⟩) hHeld ?_ ?_
              rotate_left
              ·rintro w' ⟨s0, s1, s2, s3, s4, s5, s6, s7, s8, s9, s10, s11⟩
               go_simp
               with_reducible rfl
              rotate_left
              ·exact pA
              refine take_ (i := 22) (N := some 47) (v := ?_) (a' := ?_) #[true, true, true, true, true, true, true, true, true, true, true, true, true, true, true, true, true, true, true, true, true, true, true, false, false, false, false, false, false, false, false, false, false, false, false, false, false, false, false, false, false, false, false, false, false, false, false, false, false, false, false, false, false, false] rfl rfl (take_ofW HT_.out HW_.out (by kernel_rfl)) (fun _ _ _ h => h) (Or.inl ⟨by rfl, ?_⟩) hHeld ?_ ?_
              rotate_left
              ·rintro w' ⟨s0, s1, s2, s3, s4, s5, s6, s7, s8, s9, s10, s11⟩
               go_simp
               with_reducible rfl
              rotate_left
              ·exact pA
              refine pure_ (i := 23) (N := some 48) (v := ?_) (a' := ?_) #[true, true, true, true, true, true, true, true, true, true, true, true, true, true, true, true, true, true, true, true, true, true, true, true, false, false, false, false, false, false, false, false, false, false, false, false, false, false, false, false, false, false, false, false, false, false, false, false, false, false, false, false, false, false] rfl rfl (any_of HT_.out (by kernel_rfl)) (fun _ _ _ h => h) (Or.inl ⟨by rfl, ?_⟩) ?_ ?_
              rotate_left
              ·intro w'
               go_simp
               exact pochoirlaw40_eq3 _ _ _ _ _ _ _
              rotate_left
              ·exact pA
              refine pure_ (i := 24) (N := some 49) (v := ?_) (a' := ?_) #[true, true, true, true, true, true, true, true, true, true, true, true, true, true, true, true, true, true, true, true, true, true, true, true, true, false, false, false, false, false, false, false, false, false, false, false, false, false, false, false, false, false, false, false, false, false, false, false, false, false, false, false, false, false] rfl rfl (any_of HT_.out (by kernel_rfl)) (fun _ _ _ h => h) (Or.inl ⟨by rfl, ?_⟩) ?_ ?_
              rotate_left
              ·intro w'
               go_simp
               with_reducible rfl
              rotate_left
              ·exact pA
              refine pure_ (i := 25) (N := some 50) (v := ?_) (a' := ?_) #[true, true, true, true, true, true, true, true, true, true, true, true, true, true, true, true, true, true, true, true, true, true, true, true, true, true, false, false, false, false, false, false, false, false, false, false, false, false, false, false, false, false, false, false, false, false, false, false, false, false, false, false, false, false] rfl rfl (any_of HT_.out (by kernel_rfl)) (fun _ _ _ h => h) (Or.inl ⟨by rfl, ?_⟩) ?_ ?_
              rotate_left
              ·intro w'
               go_simp
               with_reducible rfl
              rotate_left
              ·exact pA
              refine pure_ (i := 26) (N := some 51) (v := ?_) (a' := ?_) #[true, true, true, true, true, true, true, true, true, true, true, true, true, true, true, true, true, true, true, true, true, true, true, true, true, true, true, false, false, false, false, false, false, false, false, false, false, false, false, false, false, false, false, false, false, false, false, false, false, false, false, false, false, false] rfl rfl (any_of HT_.out (by kernel_rfl)) (fun _ _ _ h => h) (Or.inl ⟨by rfl, ?_⟩) ?_ ?_
              rotate_left
              ·intro w'
               go_simp
               with_reducible rfl
              rotate_left
              ·exact pA
              refine pure_ (i := 27) (N := some 52) (v := ?_) (a' := ?_) #[true, true, true, true, true, true, true, true, true, true, true, true, true, true, true, true, true, true, true, true, true, true, true, true, true, true, true, true, false, false, false, false, false, false, false, false, false, false, false, false, false, false, false, false, false, false, false, false, false, false, false, false, false, false] rfl rfl (any_of HT_.out (by kernel_rfl)) (fun _ _ _ h => h) (Or.inl ⟨by rfl, ?_⟩) ?_ ?_
              rotate_left
              ·intro w'
               go_simp
               with_reducible rfl
              rotate_left
              ·exact pA
              refine pure_ (i := 28) (N := some 53) (v := ?_) (a' := ?_) #[true, true, true, true, true, true, true, true, true, true, true, true, true, true, true, true, true, true, true, true, true, true, true, true, true, true, true, true, true, false, false, false, false, false, false, false, false, false, false, false, false, false, false, false, false, false, false, false, false, false, false, false, false, false] rfl rfl (any_of HT_.out (by kernel_rfl)) (fun _ _ _ h => h) (Or.inl ⟨by rfl, ?_⟩) ?_ ?_
              rotate_left
              ·intro w'
               go_simp
               with_reducible rfl
              rotate_left
              ·exact pA
              refine pure_ (i := 29) (N := some 54) (v := ?_) (a' := ?_) #[true, true, true, true, true, true, true, true, true, true, true, true, true, true, true, true, true, true, true, true, true, true, true, true, true, true, true, true, true, true, false, false, false, false, false, false, false, false, false, false, false, false, false, false, false, false, false, false, false, false, false, false, false, false] rfl rfl (any_of HT_.out (by kernel_rfl)) (fun _ _ _ h => h) (Or.inl ⟨by rfl, ?_⟩) ?_ ?_
              rotate_left
              ·intro w'
               go_simp
               with_reducible rfl
              rotate_left
              ·exact pA
              refine pure_ (i := 30) (N := some 55) (v := ?_) (a' := ?_) #[true, true, true, true, true, true, true, true, true, true, true, true, true, true, true, true, true, true, true, true, true, true, true, true, true, true, true, true, true, true, true, false, false, false, false, false, false, false, false, false, false, false, false, false, false, false, false, false, false, false, false, false, false, false] rfl rfl (any_of HT_.out (by kernel_rfl)) (fun _ _ _ h => h) (Or.inl ⟨by rfl, ?_⟩) ?_ ?_
              rotate_left
              ·intro w'
               go_simp
               with_reducible rfl
              rotate_left
              ·exact pA
              refine pure_ (i := 31) (N := some 56) (v := ?_) (a' := ?_) #[true, true, true, true, true, true, true, true, true, true, true, true, true, true, true, true, true, true, true, true, true, true, true, true, true, true, true, true, true, true, true, true, false, false, false, false, false, false, false, false, false, false, false, false, false, false, false, false, false, false, false, false, false, false] rfl rfl (any_of HT_.out (by kernel_rfl)) (fun _ _ _ h => h) (Or.inl ⟨by rfl, ?_⟩) ?_ ?_
              rotate_left
              ·intro w'
               go_simp
               with_reducible rfl
              rotate_left
              ·exact pA
              refine pure_ (i := 32) (N := some 57) (v := ?_) (a' := ?_) #[true, true, true, true, true, true, true, true, true, true, true, true, true, true, true, true, true, true, true, true, true, true, true, true, true, true, true, true, true, true, true, true, true, false, false, false, false, false, false, false, false, false, false, false, false, false, false, false, false, false, false, false, false, false] rfl rfl (any_of HT_.out (by kernel_rfl)) (fun _ _ _ h => h) (Or.inl ⟨by rfl, ?_⟩) ?_ ?_
              rotate_left
              ·intro w'
               go_simp
               with_reducible rfl
              rotate_left
              ·exact pA
              refine pure_ (i := 33) (N := some 58) (v := ?_) (a' := ?_) #[true, true, true, true, true, true, true, true, true, true, true, true, true, true, true, true, true, true, true, true, true, true, true, true, true, true, true, true, true, true, true, true, true, true, false, false, false, false, false, false, false, false, false, false, false, false, false, false, false, false, false, false, false, false] rfl rfl (any_of HT_.out (by kernel_rfl)) (fun _ _ _ h => h) (Or.inl ⟨by rfl, ?_⟩) ?_ ?_
              rotate_left
              ·intro w'
               go_simp
               with_reducible rfl
              rotate_left
              ·exact pA
              refine take_ (i := 34) (N := some 59) (v := ?_) (a' := ?_) #[true, true, true, true, true, true, true, true, true, true, true, true, true, true, true, true, true, true, true, true, true, true, true, true, true, true, true, true, true, true, true, true, true, true, true, false, false, false, false, false, false, false, false, false, false, false, false, false, false, false, false, false, false, false] rfl rfl (take_ofW HT_.out HW_.out (by kernel_rfl)) (fun _ _ _ h => h) (Or.inl ⟨by rfl, ?_⟩) hHeld ?_ ?_
              rotate_left
              ·rintro w' ⟨s0, s1, s2, s3, s4, s5, s6, s7, s8, s9, s10, s11⟩
               go_simp
               with_reducible rfl
              rotate_left
              ·exact pA
              refine pure_ (i := 35) (N := some 60) (v := ?_) (a' := ?_) #[true, true, true, true, true, true, true, true, true, true, true, true, true, true, true, true, true, true, true, true, true, true, true, true, true, true, true, true, true, true, true, true, true, true, true, true, false, false, false, false, false, false, false, false, false, false, false, false, false, false, false, false, false, false] rfl rfl (any_of HT_.out (by kernel_rfl)) (fun _ _ _ h => h) (Or.inl ⟨by rfl, ?_⟩) ?_ ?_
              rotate_left
              ·intro w'
               go_simp
               with_reducible rfl
              rotate_left
              ·exact pA
              refine pure_ (i := 36) (N := some 61) (v := ?_) (a' := ?_) #[true, true, true, true, true, true, true, true, true, true, true, true, true, true, true, true, true, true, true, true, true, true, true, true, true, true, true, true, true, true, true, true, true, true, true, true, true, false, false, false, false, false, false, false, false, false, false, false, false, false, false, false, false, false] rfl rfl (any_of HT_.out (by kernel_rfl)) (fun _ _ _ h => h) (Or.inl ⟨by rfl, ?_⟩) ?_ ?_
              rotate_left
              ·intro w'
               go_simp
               with_reducible rfl
              rotate_left
              ·exact pA
              refine pure_ (i := 37) (N := some 62) (v := ?_) (a' := ?_) #[true, true, true, true, true, true, true, true, true, true, true, true, true, true, true, true, true, true, true, true, true, true, true, true, true, true, true, true, true, true, true, true, true, true, true, true, true, true, false, false, false, false, false, false, false, false, false, false, false, false, false, false, false, false] rfl rfl (any_of HT_.out (by kernel_rfl)) (fun _ _ _ h => h) (Or.inl ⟨by rfl, ?_⟩) ?_ ?_
              rotate_left
              ·intro w'
               go_simp
               with_reducible rfl
              rotate_left
              ·exact pA
              refine pure_ (i := 38) (N := some 63) (v := ?_) (a' := ?_) #[true, true, true, true, true, true, true, true, true, true, true, true, true, true, true, true, true, true, true, true, true, true, true, true, true, true, true, true, true, true, true, true, true, true, true, true, true, true, true, false, false, false, false, false, false, false, false, false, false, false, false, false, false, false] rfl rfl (any_of HT_.out (by kernel_rfl)) (fun _ _ _ h => h) (Or.inl ⟨by rfl, ?_⟩) ?_ ?_
              rotate_left
              ·intro w'
               go_simp
               with_reducible rfl
              rotate_left
              ·exact pA
              refine pure_ (i := 39) (N := some 64) (v := ?_) (a' := ?_) #[true, true, true, true, true, true, true, true, true, true, true, true, true, true, true, true, true, true, true, true, true, true, true, true, true, true, true, true, true, true, true, true, true, true, true, true, true, true, true, true, false, false, false, false, false, false, false, false, false, false, false, false, false, false] rfl rfl (any_of HT_.out (by kernel_rfl)) (fun _ _ _ h => h) (Or.inl ⟨by rfl, ?_⟩) ?_ ?_
              rotate_left
              ·intro w'
               go_simp
               with_reducible rfl
              rotate_left
              ·exact pA
              refine pure_ (i := 40) (N := some 65) (v := ?_) (a' := ?_) #[true, true, true, true, true, true, true, true, true, true, true, true, true, true, true, true, true, true, true, true, true, true, true, true, true, true, true, true, true, true, true, true, true, true, true, true, true, true, true, true, true, false, false, false, false, false, false, false, false, false, false, false, false, false] rfl rfl (any_of HT_.out (by kernel_rfl)) (fun _ _ _ h => h) (Or.inl ⟨by rfl, ?_⟩) ?_ ?_
              rotate_left
              ·intro w'
               go_simp
               with_reducible rfl
              rotate_left
              ·exact pA
              refine take_ (i := 41) (N := some 66) (v := ?_) (a' := ?_) #[true, true, true, true, true, true, true, true, true, true, true, true, true, true, true, true, true, true, true, true, true, true, true, true, true, true, true, true, true, true, true, true, true, true, true, true, true, true, true, true, true, true, false, false, false, false, false, false, false, false, false, false, false, false] rfl rfl (take_ofW HT_.out HW_.out (by kernel_rfl)) (fun _ _ _ h => h) (Or.inl ⟨by rfl, ?_⟩) hHeld ?_ ?_
              rotate_left
              ·rintro w' ⟨s0, s1, s2, s3, s4, s5, s6, s7, s8, s9, s10, s11⟩
               go_simp
               with_reducible rfl
              rotate_left
              ·exact pA
              refine pure_ (i := 42) (N := some 67) (v := ?_) (a' := ?_) #[true, true, true, true, true, true, true, true, true, true, true, true, true, true, true, true, true, true, true, true, true, true, true, true, true, true, true, true, true, true, true, true, true, true, true, true, true, true, true, true, true, true, true, false, false, false, false, false, false, false, false, false, false, false] rfl rfl (any_of HT_.out (by kernel_rfl)) (fun _ _ _ h => h) (Or.inl ⟨by rfl, ?_⟩) ?_ ?_
              rotate_left
              ·intro w'
               go_simp
               with_reducible rfl
              rotate_left
              ·exact pA
              refine pure_ (i := 43) (N := some 68) (v := ?_) (a' := ?_) #[true, true, true, true, true, true, true, true, true, true, true, true, true, true, true, true, true, true, true, true, true, true, true, true, true, true, true, true, true, true, true, true, true, true, true, true, true, true, true, true, true, true, true, true, false, false, false, false, false, false, false, false, false, false] rfl rfl (any_of HT_.out (by kernel_rfl)) (fun _ _ _ h => h) (Or.inl ⟨by rfl, ?_⟩) ?_ ?_
              rotate_left
              ·intro w'
               go_simp
               with_reducible rfl
              rotate_left
              ·exact pA
              refine pure_ (i := 44) (N := some 69) (v := ?_) (a' := ?_) #[true, true, true, true, true, true, true, true, true, true, true, true, true, true, true, true, true, true, true, true, true, true, true, true, true, true, true, true, true, true, true, true, true, true, true, true, true, true, true, true, true, true, true, true, true, false, false, false, false, false, false, false, false, false] rfl rfl (any_of HT_.out (by kernel_rfl)) (fun _ _ _ h => h) (Or.inl ⟨by rfl, ?_⟩) ?_ ?_
              rotate_left
              ·intro w'
               go_simp
               with_reducible rfl
              rotate_left
              ·exact pA
              refine pure_ (i := 45) (N := some 70) (v := ?_) (a' := ?_) #[true, true, true, true, true, true, true, true, true, true, true, true, true, true, true, true, true, true, true, true, true, true, true, true, true, true, true, true, true, true, true, true, true, true, true, true, true, true, true, true, true, true, true, true, true, true, false, false, false, false, false, false, false, false] rfl rfl (any_of HT_.out (by kernel_rfl)) (fun _ _ _ h => h) (Or.inl ⟨by rfl, ?_⟩) ?_ ?_
              rotate_left
              ·intro w'
               go_simp
               with_reducible rfl
              rotate_left
              ·exact pA
              refine one_ (i := 46) (N := some 71) #[true, true, true, true, true, true, true, true, true, true, true, true, true, true, true, true, true, true, true, true, true, true, true, true, true, true, true, true, true, true, true, true, true, true, true, true, true, true, true, true, true, true, true, true, true, true, true, false, false, false, false, false, false, false] rfl rfl (one_of HT_.out (by kernel_rfl)) (by decide) (fun K hK => ?_)
              refine goes_ Try.func11 (by kernel_rfl) rfl #[.slice (some ad200) aa.length aM, .int .i64 1, .int .i64 2] (by rfl) rfl rfl (by (try simp only [List.map_toArray, List.map_cons, List.map_nil]); first | done | rfl | (simp only [List.length_drop, List.length_take]; rfl)) ?_
              with_reducible refine (kern_By.calls k _ _ aa 1 2 ah _ ?side1 ?side2 A16.out).mono ?_
              (case side1 => repeat (first | exact (Kd.R_reads' ad.out).2.2 | (with_reducible refine Kd.C_alloc ?_ _) | (with_reducible refine Kd.C_drewN ?_ _) | (with_reducible refine Kd.C_drew ?_)))
              (case side2 => exact (Kd.R_reads' ad.out).2.1)
              rintro e bx ⟨rfl, hb⟩
              have HS0_ := (hb.cell (World.block_lt_of_cell? _ _ (hHeld.1))).trans (hHeld.1)
              have HS1_ := (hb.cell (World.block_lt_of_cell? _ _ (hHeld.2.1))).trans (hHeld.2.1)
              have HS2_ := (hb.cell (World.block_lt_of_cell? _ _ (hHeld.2.2.1))).trans (hHeld.2.2.1)
              have HS3_ := (hb.cell (World.block_lt_of_cell? _ _ (hHeld.2.2.2.1))).trans (hHeld.2.2.2.1)
              have HS4_ := (hb.cell (World.block_lt_of_cell? _ _ (hHeld.2.2.2.2.1))).trans (hHeld.2.2.2.2.1)
              have HS5_ := (hb.cell (World.block_lt_of_cell? _ _ (hHeld.2.2.2.2.2.1))).trans (hHeld.2.2.2.2.2.1)
              have HS6_ := (hb.cell (World.block_lt_of_cell? _ _ (hHeld.2.2.2.2.2.2.1))).trans (hHeld.2.2.2.2.2.2.1)
              have HS7_ := (hb.cell (World.block_lt_of_cell? _ _ (hHeld.2.2.2.2.2.2.2.1))).trans (hHeld.2.2.2.2.2.2.2.1)
              have HS8_ := (hb.cell (World.block_lt_of_cell? _ _ (hHeld.2.2.2.2.2.2.2.2.1))).trans (hHeld.2.2.2.2.2.2.2.2.1)
              have HS9_ := (hb.cell (World.block_lt_of_cell? _ _ (hHeld.2.2.2.2.2.2.2.2.2.1))).trans (hHeld.2.2.2.2.2.2.2.2.2.1)
              have HS10_ := (hb.cell (World.block_lt_of_cell? _ _ (hHeld.2.2.2.2.2.2.2.2.2.2.1))).trans (hHeld.2.2.2.2.2.2.2.2.2.2.1)
              have HS11_ := (hb.cell (World.block_lt_of_cell? _ _ (hHeld.2.2.2.2.2.2.2.2.2.2.2))).trans (hHeld.2.2.2.2.2.2.2.2.2.2.2)
              refine ⟨_, rfl, ?_⟩
              have aj := Aside0.mk (Kd.R_below (by (with_reducible repeat (first | apply Kd.R_alloc | apply Kd.R_drewN | apply Kd.R_drew)); exact ad.out) hb)
              have ak := Aside0.mk (Kd.R_below (by (with_reducible repeat (first | apply Kd.R_alloc | apply Kd.R_drewN | apply Kd.R_drew)); exact af.out) hb)
              have ao := Aside0.mk (Kd.R_below (by (with_reducible repeat (first | apply Kd.R_alloc | apply Kd.R_drewN | apply Kd.R_drew)); exact ag.out) hb)
              have ap := Aside0.mk (Kd.R_below (by (with_reducible repeat (first | apply Kd.R_alloc | apply Kd.R_drewN | apply Kd.R_drew)); exact al.out) hb)
              have aG := Aside0.mk (below_step (by exact lB HB.out) hb)
              clear ad
              clear af
              clear ag
              clear al
              clear HB
              have ad := aj
              have af := ak
              have ag := ao
              have al := ap
              have HB := aG
              clear aj ak ao ap aG
              (try clear hb)
              (try clear aO)
              (try clear hk)
              (try clear hi)
              refine hK.out _ _ ⟨HS0_, HS1_, HS2_, HS3_, HS4_, HS5_, HS6_, HS7_, HS8_, HS9_, HS10_, HS11_⟩ (fun hHeld => ?_)
              clear hK K
              refine norm_ (a' := ?_) ?_ ?_
              rotate_left
              ·show Act.put _ (some 71) _ = _
               exact pA
              refine pure_ (i := 47) (N := some 72) (v := ?_) (a' := ?_) #[true, true, true, true, true, true, true, true, true, true, true, true, true, true, true, true, true, true, true, true, true, true, true, true, true, true, true, true, true, true, true, true, true, true, true, true, true, true, true, true, true, true, true, true, true, true, true, true, false, false, false, false, false, false] rfl rfl (any_of HT_.out (by kernel_rfl)) (fun _ _ _ h => h) (Or.inl ⟨by rfl, ?_⟩) ?_ ?_
              rotate_left
              ·intro w'
               go_simp
               with_reducible rfl
              rotate_left
              ·exact pA
              refine pure_ (i := 48) (N := some 73) (v := ?_) (a' := ?_) #[true, true, true, true, true, true, true, true, true, true, true, true, true, true, true, true, true, true, true, true, true, true, true, true, true, true, true, true, true, true, true, true, true, true, true, true, true, true, true, true, true, true, true, true, true, true, true, true, true, false, false, false, false, false] rfl rfl (any_of HT_.out (by kernel_rfl)) (fun _ _ _ h => h) (Or.inl ⟨by rfl, ?_⟩) ?_ ?_
              rotate_left
              ·intro w'
               go_simp
               with_reducible rfl
              rotate_left
              ·exact pA
              refine pure_ (i := 49) (N := some 74) (v := ?_) (a' := ?_) #[true, true, true, true, true, true, true, true, true, true, true, true, true, true, true, true, true, true, true, true, true, true, true, true, true, true, true, true, true, true, true, true, true, true, true, true, true, true, true, true, true, true, true, true, true, true, true, true, true, true, false, false, false, false] rfl rfl (any_of HT_.out (by kernel_rfl)) (fun _ _ _ h => h) (Or.inl ⟨by rfl, ?_⟩) ?_ ?_
              rotate_left
              ·intro w'
               go_simp
               with_reducible rfl
              rotate_left
              ·exact pA
              refine pure_ (i := 50) (N := some 75) (v := ?_) (a' := ?_) #[true, true, true, true, true, true, true, true, true, true, true, true, true, true, true, true, true, true, true, true, true, true, true, true, true, true, true, true, true, true, true, true, true, true, true, true, true, true, true, true, true, true, true, true, true, true, true, true, true, true, true, false, false, false] rfl rfl (any_of HT_.out (by kernel_rfl)) (fun _ _ _ h => h) (Or.inl ⟨by rfl, ?_⟩) ?_ ?_
              rotate_left
              ·intro w'
               go_simp
               with_reducible rfl
              rotate_left
              ·exact pA
              refine one_ (i := 51) (N := some 76) #[true, true, true, true, true, true, true, true, true, true, true, true, true, true, true, true, true, true, true, true, true, true, true, true, true, true, true, true, true, true, true, true, true, true, true, true, true, true, true, true, true, true, true, true, true, true, true, true, true, true, true, true, false, false] rfl rfl (one_of HT_.out (by kernel_rfl)) (by decide) (fun K hK => ?_)
              refine goes_ Try.func9 (by kernel_rfl) rfl #[.slice (some ad200) aa.length aM, .int .i64 3] (by rfl) rfl rfl (by (try simp only [List.map_toArray, List.map_cons, List.map_nil]); first | done | rfl | (simp only [List.length_drop, List.length_take]; rfl)) ?_
              with_reducible refine (kern_May.calls k _ _ aa 3 ai _ ?side1 ?side2 A18.out).mono ?_
              (case side1 => repeat (first | exact (Kd.R_reads' ad.out).2.2 | (with_reducible refine Kd.C_alloc ?_ _) | (with_reducible refine Kd.C_drewN ?_ _) | (with_reducible refine Kd.C_drew ?_)))
              (case side2 => exact (Kd.R_reads' ad.out).2.1)
              rintro e bz ⟨rfl, hb⟩
              have HS0_ := (hb.cell (World.block_lt_of_cell? _ _ (hHeld.1))).trans (hHeld.1)
              have HS1_ := (hb.cell (World.block_lt_of_cell? _ _ (hHeld.2.1))).trans (hHeld.2.1)
              have HS2_ := (hb.cell (World.block_lt_of_cell? _ _ (hHeld.2.2.1))).trans (hHeld.2.2.1)
              have HS3_ := (hb.cell (World.block_lt_of_cell? _ _ (hHeld.2.2.2.1))).trans (hHeld.2.2.2.1)
              have HS4_ := (hb.cell (World.block_lt_of_cell? _ _ (hHeld.2.2.2.2.1))).trans (hHeld.2.2.2.2.1)
              have HS5_ := (hb.cell (World.block_lt_of_cell? _ _ (hHeld.2.2.2.2.2.1))).trans (hHeld.2.2.2.2.2.1)
              have HS6_ := (hb.cell (World.block_lt_of_cell? _ _ (hHeld.2.2.2.2.2.2.1))).trans (hHeld.2.2.2.2.2.2.1)
              have HS7_ := (hb.cell (World.block_lt_of_cell? _ _ (hHeld.2.2.2.2.2.2.2.1))).trans (hHeld.2.2.2.2.2.2.2.1)
              have HS8_ := (hb.cell (World.block_lt_of_cell? _ _ (hHeld.2.2.2.2.2.2.2.2.1))).trans (hHeld.2.2.2.2.2.2.2.2.1)
              have HS9_ := (hb.cell (World.block_lt_of_cell? _ _ (hHeld.2.2.2.2.2.2.2.2.2.1))).trans (hHeld.2.2.2.2.2.2.2.2.2.1)
              have HS10_ := (hb.cell (World.block_lt_of_cell? _ _ (hHeld.2.2.2.2.2.2.2.2.2.2.1))).trans (hHeld.2.2.2.2.2.2.2.2.2.2.1)
              have HS11_ := (hb.cell (World.block_lt_of_cell? _ _ (hHeld.2.2.2.2.2.2.2.2.2.2.2))).trans (hHeld.2.2.2.2.2.2.2.2.2.2.2)
              refine ⟨_, rfl, ?_⟩
              have aj := Aside0.mk (Kd.R_below (by (with_reducible repeat (first | apply Kd.R_alloc | apply Kd.R_drewN | apply Kd.R_drew)); exact ad.out) hb)
              have ak := Aside0.mk (Kd.R_below (by (with_reducible repeat (first | apply Kd.R_alloc | apply Kd.R_drewN | apply Kd.R_drew)); exact af.out) hb)
              have ao := Aside0.mk (Kd.R_below (by (with_reducible repeat (first | apply Kd.R_alloc | apply Kd.R_drewN | apply Kd.R_drew)); exact ag.out) hb)
              have ap := Aside0.mk (Kd.R_below (by (with_reducible repeat (first | apply Kd.R_alloc | apply Kd.R_drewN | apply Kd.R_drew)); exact al.out) hb)
              have aG := Aside0.mk (below_step (by exact lB HB.out) hb)
              clear ad
              clear af
              clear ag
              clear al
              clear HB
              have ad := aj
              have af := ak
              have ag := ao
              have al := ap
              have HB := aG
              clear aj ak ao ap aG
              (try clear hb)
              (try clear aO)
              (try clear hk)
              (try clear hi)
              refine hK.out _ _ ⟨HS0_, HS1_, HS2_, HS3_, HS4_, HS5_, HS6_, HS7_, HS8_, HS9_, HS10_, HS11_⟩ (fun hHeld => ?_)
              clear hK K
              refine norm_ (a' := ?_) ?_ ?_
              rotate_left
              ·show Act.put _ (some 76) _ = _
               exact pA
              refine pure_ (i := 52) (N := some 77) (v := ?_) (a' := ?_) #[true, true, true, true, true, true, true, true, true, true, true, true, true, true, true, true, true, true, true, true, true, true, true, true, true, true, true, true, true, true, true, true, true, true, true, true, true, true, true, true, true, true, true, true, true, true, true, true, true, true, true, true, true, false] rfl rfl (any_of HT_.out (by kernel_rfl)) (fun _ _ _ h => h) (Or.inl ⟨by rfl, ?_⟩) ?_ ?_
              rotate_left
              ·intro w'
               go_simp
               with_reducible rfl
              rotate_left
              ·exact pA
              refine pure_ (i := 53) (N := some 0) (v := ?_) (a' := ?_) #[true, true, true, true, true, true, true, true, true, true, true, true, true, true, true, true, true, true, true, true, true, true, true, true, true, true, true, true, true, true, true, true, true, true, true, true, true, true, true, true, true, true, true, true, true, true, true, true, true, true, true, true, true, true] rfl rfl (any_of HT_.out (by kernel_rfl)) (fun _ _ _ h => h) (Or.inl ⟨by rfl, ?_⟩) ?_ ?_
              rotate_left
              ·intro w'
               go_simp
               with_reducible rfl
              rotate_left
              ·exact pA
              refine done_ (done_of HT_.out (by kernel_rfl)) ?_
              try go_wp2
              go_ret
              exact ⟨by first | rfl | (simp [errW_none, errW_some] <;> rfl) | (simp [*, errW_none, errW_some] <;> rfl), by exact lB HB.out⟩
             ·rw [if_neg c17] at H
              have aZ : (ah == (-5)) = false := beq_eq_false_iff_ne.mpr c17
              have a0 : (ah != (-5)) = true := bne_iff_ne.mpr c17
              obtain rfl := Option.some.inj H
              exact absurd HKP.out (by decide)
            ·rw [if_neg c15] at H
             have aX : (((rd_T43 ab 2).f1) == 13) = false := beq_eq_false_iff_ne.mpr c15
             have aY : (((rd_T43 ab 2).f1) != 13) = true := bne_iff_ne.mpr c15
             obtain rfl := Option.some.inj H
             exact absurd HKP.out (by decide)
           ·rw [if_neg c14] at H
            exact absurd H (by simp)
          ·rw [if_neg c13] at H
           have aV : (((rd_T43 ab 1).f1) == 4) = false := beq_eq_false_iff_ne.mpr c13
           have aW : (((rd_T43 ab 1).f1) != 4) = true := bne_iff_ne.mpr c13
           obtain rfl := Option.some.inj H
           exact absurd HKP.out (by decide)
         ·rw [if_neg c12] at H
          exact absurd H (by simp)
        ·rw [if_neg c11] at H
         have aT : ((ab.length : Int) == 3) = false := beq_eq_false_iff_ne.mpr c11
         have aU : ((ab.length : Int) != 3) = true := bne_iff_ne.mpr c11
         obtain rfl := Option.some.inj H
         exact absurd HKP.out (by decide)
       ·rw [if_neg c10] at H
        have aQ : (((rd_T41 ac 0).f0) == ((rd_T41 aa 0).f0) && (((rd_T41 ac 0).f1) == ((rd_T41 aa 0).f1) && (((rd_T41 ac 0).f2) == ((rd_T41 aa 0).f2)))) = false := by simpa using c10
        (try (have aR : decide (((rd_T41 ac 0).f0) = ((rd_T41 aa 0).f0) && (((rd_T41 ac 0).f1) == ((rd_T41 aa 0).f1) && (((rd_T41 ac 0).f2) == ((rd_T41 aa 0).f2)))) = false := by simpa using c10))
        (try (have aS : (((rd_T41 ac 0).f0) == ((rd_T41 aa 0).f0) && (((rd_T41 ac 0).f1) == ((rd_T41 aa 0).f1) && (((rd_T41 ac 0).f2) == ((rd_T41 aa 0).f2)))) = false := by simpa using c10))
        (try (have bg : ¬ (((rd_T41 ac 0).f0) = ((rd_T41 aa 0).f0) && (((rd_T41 ac 0).f1) == ((rd_T41 aa 0).f1) && (((rd_T41 ac 0).f2) == ((rd_T41 aa 0).f2)))) := by simpa using c10))
        clear c10
        obtain rfl := Option.some.inj H
        exact absurd HKP.out (by decide)
      ·rw [if_neg c9] at H
       exact absurd H (by simp)
     ·rw [if_neg c8] at H
      exact absurd H (by simp)
    ·rw [if_neg c7] at H
     have a7 : ((ac.length : Int) == 1) = false := beq_eq_false_iff_ne.mpr c7
     have a8 : ((ac.length : Int) != 1) = true := bne_iff_ne.mpr c7
     obtain rfl := Option.some.inj H
     exact absurd HKP.out (by decide)
   ·rw [if_neg c6] at H
    have a5 : (aF == 0) = false := beq_eq_false_iff_ne.mpr c6
    have a6 : (aF != 0) = true := bne_iff_ne.mpr c6
    obtain rfl := Option.some.inj H
    exact absurd HKP.out (by decide)
  ·rw [if_neg c5] at H
   have a3 : ((an.size : Int) == 24) = false := beq_eq_false_iff_ne.mpr c5
   have a4 : ((an.size : Int) != 24) = true := bne_iff_ne.mpr c5
   obtain rfl := Option.some.inj H
   exact absurd HKP.out (by decide)
 ·rw [if_neg c4] at H
  have a1 : (aq == 0) = false := beq_eq_false_iff_ne.mpr c4
  have a2 : (aq != 0) = true := bne_iff_ne.mpr c4
  obtain rfl := Option.some.inj H
  exact absurd HKP.out (by decide)
def pochoirlaw40_awake.f (k : Nat)  : Option (Bool) := (pochoirlaw40_awake.g k ).bind fun b => if b = true then some true else none
theorem pochoirlaw40_awake.mono : ∀ k, LeO (pochoirlaw40_awake.f k) (pochoirlaw40_awake.f (k + 1)) := fun k => LeO.bind (pochoirlaw40_awake.gmono k) (fun _ => LeO.refl _)
theorem pochoirlaw40_awake.calls (k : Nat)  (r : Bool) (w : World) (h : pochoirlaw40_awake.f k  = some r) :
  Calls Try.prog 6 #[] w fun e w' => e = .returned (.bool r) ∧ Below w.heap.size w w' := by
 have h' := h
 unfold pochoirlaw40_awake.f at h'
 obtain ⟨b, hb, h'⟩ := Option.bind_eq_some_iff.mp h'
 split at h'
 ·rename_i hbt
  obtain rfl := Option.some.inj h'
  rw [hbt] at hb
  exact pochoirlaw40_awake.gcalls k true w rfl hb
 ·cases h'

end Go.Proofs.Ythnojbbfmcapnaa.Pr
