-- printed by a program of this session's (wip/mp.sh), out of the translation; the texts of its folder 'given' are typed by hand
-- shortened (wip/short.py)
import Derived.Test.YtjcgmjhcaaaieaaDoorPr0
import Derived.Test.YtjcgmjhcaaaieaaDoorPr14
import Derived.Test.YtjcgmjhcaaaieaaDoorPr15
import Derived.Test.YtjcgmjhcaaaieaaDoorPr28
namespace Go.Proofs.YtjcgmjhcaaaieaaDoor.Pr
open Go.RowKit Go.Proofs.YtjcgmjhcaaaieaaDoorW.PrintWords Go.Proofs.YtjcgmjhcaaaieaaDoorW.PrintLast Go.Proofs.YtjcgmjhcaaaieaaDoorW.PrintMore
attribute [local go_sem] max2_int min2_int max_two min_two max_three min_three max_four min_four   -- for this text's walks alone
attribute [local go_sem high] eqA32
set_option linter.unusedVariables false
set_option linter.unusedSimpArgs false

/-! ### pochoirlaw32_awake: function 6 -/
def pochoirlaw32_awake.g (k : Nat)  : Option (Bool) := (sample_At.f k 16 1 1 0 0 0 2 1 (([(⟨0, (⟨0, 0, 2, 1⟩ : S50), (⟨0, 0, 0⟩ : S52)⟩ : S54)] : List (S54))) ([] : List (S84)) (([(⟨#[0, 2, 4, 6, 100, 2, 8, 6]⟩ : ByteArray)] : List ByteArray)) 0 128 0).bind fun ac => ((sample_Cover.f k 8388608 1 1 1).bind fun ak => (if ac.1 = 3276800 then (if ac.2.1 = 131072 then (if ac.2.2.1 = 393216 then (if ac.2.2.2.1 = 393216 then (if ac.2.2.2.2 = 0 then ((sample_Median.f ac.1 ac.2.1 ac.2.2.1 ac.2.2.2.1).bind fun ah => (if ah = 393216 then (if ak.1 = 128 then (some (ak.2 == 0)) else (some false)) else (some false))) else (some false)) else (some false)) else (some false)) else (some false)) else (some false)))
theorem pochoirlaw32_awake.gmono : ∀ k, LeO (pochoirlaw32_awake.g k ) (pochoirlaw32_awake.g (k + 1) ) := by
 intro  k
 unfold pochoirlaw32_awake.g
 repeat' first
   | (with_reducible exact sample_At.mono _ _ _ _ _ _ _ _ _ _ _ _ _ _ _)
   | (with_reducible exact sample_Cover.mono _ _ _ _ _)
   | (with_reducible exact LeO.refl _)
   | (with_reducible exact LeO.none _)
   | (with_reducible refine LeO.ite ?_ ?_)
   | (with_reducible refine LeO.bind ?_ (fun _ => ?_))
   | exact sample_At.mono _ _ _ _ _ _ _ _ _ _ _ _ _ _ _
   | exact sample_Cover.mono _ _ _ _ _
   | exact LeO.none _
   | refine LeO.ite ?_ ?_
   | refine LeO.bind ?_ (fun _ => ?_)
set_option maxHeartbeats 8000000 in
set_option maxRecDepth 100000 in
theorem pochoirlaw32_awake.gcalls (k : Nat)  (r : Bool) (w : World) (hkeep : r = true) (h : pochoirlaw32_awake.g k  = some r) (hTab : HasTab w) :
  Calls Tryd.prog 6 #[] w fun e w' => e = .returned (.bool r) ∧ Below w.heap.size w w' := by
 have HKP := A_.mk hkeep
 clear hkeep
 have bP := Tryd.underlying23
 have bQ := Tryd.underlying50
 have bR := Tryd.underlying54
 have bS := Tryd.underlying28
 have bT := Tryd.underlying32
 have bU := Tryd.underlying42
 have HB := A_.mk (Below.refl w.heap.size w)
 have H : ((sample_At.f k 16 1 1 0 0 0 2 1 (([(⟨0, (⟨0, 0, 2, 1⟩ : S50), (⟨0, 0, 0⟩ : S52)⟩ : S54)] : List (S54))) ([] : List (S84)) (([(⟨#[0, 2, 4, 6, 100, 2, 8, 6]⟩ : ByteArray)] : List ByteArray)) 0 128 0).bind fun ac => ((sample_Cover.f k 8388608 1 1 1).bind fun ak => (if ac.1 = 3276800 then (if ac.2.1 = 131072 then (if ac.2.2.1 = 393216 then (if ac.2.2.2.1 = 393216 then (if ac.2.2.2.2 = 0 then ((sample_Median.f ac.1 ac.2.1 ac.2.2.1 ac.2.2.2.1).bind fun ah => (if ah = 393216 then (if ak.1 = 128 then (some (ak.2 == 0)) else (some false)) else (some false))) else (some false)) else (some false)) else (some false)) else (some false)) else (some false)))) = some r := h
 clear h
 obtain ⟨al, aF⟩ : ∃ y_ : List (S54), y_ = (([(⟨0, (⟨0, 0, 2, 1⟩ : S50), (⟨0, 0, 0⟩ : S52)⟩ : S54)] : List (S54))) := ⟨_, rfl⟩
 replace H : ((sample_At.f k 16 1 1 0 0 0 2 1 al ([] : List (S84)) (([(⟨#[0, 2, 4, 6, 100, 2, 8, 6]⟩ : ByteArray)] : List ByteArray)) 0 128 0).bind fun ac => ((sample_Cover.f k 8388608 1 1 1).bind fun ak => (if ac.1 = 3276800 then (if ac.2.1 = 131072 then (if ac.2.2.1 = 393216 then (if ac.2.2.2.1 = 393216 then (if ac.2.2.2.2 = 0 then ((sample_Median.f ac.1 ac.2.1 ac.2.2.1 ac.2.2.2.1).bind fun ah => (if ah = 393216 then (if ak.1 = 128 then (some (ak.2 == 0)) else (some false)) else (some false))) else (some false)) else (some false)) else (some false)) else (some false)) else (some false)))) = some r := by first | (rw [aF]; with_reducible exact H) | (have H2_ := (Option.bind_some _ _).symm.trans H; rw [aF]; with_reducible exact H2_) | (have H2_ := (Option.bind_some _ _).symm.trans H; with_reducible exact H2_) | with_reducible exact H | (rw [aF]; exact H) | exact H
 have Ny253 := A_.mk aF
 clear aF
 obtain ⟨aq, aG⟩ : ∃ y_ : List ByteArray, y_ = (([(⟨#[0, 2, 4, 6, 100, 2, 8, 6]⟩ : ByteArray)] : List ByteArray)) := ⟨_, rfl⟩
 replace H : ((sample_At.f k 16 1 1 0 0 0 2 1 al ([] : List (S84)) aq 0 128 0).bind fun ac => ((sample_Cover.f k 8388608 1 1 1).bind fun ak => (if ac.1 = 3276800 then (if ac.2.1 = 131072 then (if ac.2.2.1 = 393216 then (if ac.2.2.2.1 = 393216 then (if ac.2.2.2.2 = 0 then ((sample_Median.f ac.1 ac.2.1 ac.2.2.1 ac.2.2.2.1).bind fun ah => (if ah = 393216 then (if ak.1 = 128 then (some (ak.2 == 0)) else (some false)) else (some false))) else (some false)) else (some false)) else (some false)) else (some false)) else (some false)))) = some r := by first | (rw [aG]; with_reducible exact H) | (have H2_ := (Option.bind_some _ _).symm.trans H; rw [aG]; with_reducible exact H2_) | (have H2_ := (Option.bind_some _ _).symm.trans H; with_reducible exact H2_) | with_reducible exact H | (rw [aG]; exact H) | exact H
 have Ny256 := A_.mk aG
 clear aG
 replace H := Option.bind_eq_some_iff.mp H
 obtain ⟨⟨ai, aj, am, an, aB⟩, A10, H⟩ := H
 replace H : ((sample_Cover.f k 8388608 1 1 1).bind fun ak => (if ai = 3276800 then (if aj = 131072 then (if am = 393216 then (if an = 393216 then (if aB = 0 then ((sample_Median.f ai aj am an).bind fun ah => (if ah = 393216 then (if ak.1 = 128 then (some (ak.2 == 0)) else (some false)) else (some false))) else (some false)) else (some false)) else (some false)) else (some false)) else (some false))) = some r := H
 have A1 := A_.mk A10
 clear A10
 replace H := Option.bind_eq_some_iff.mp H
 obtain ⟨⟨aC, aM⟩, A20, H⟩ := H
 replace H : (if ai = 3276800 then (if aj = 131072 then (if am = 393216 then (if an = 393216 then (if aB = 0 then ((sample_Median.f ai aj am an).bind fun ah => (if ah = 393216 then (if aC = 128 then (some (aM == 0)) else (some false)) else (some false))) else (some false)) else (some false)) else (some false)) else (some false)) else (some false)) = some r := H
 have A2 := A_.mk A20
 clear A20
 by_cases c3 : ai = 3276800
 ·rw [if_pos c3] at H
  have aV : (ai == 3276800) = true := beq_iff_eq.mpr c3
  have aW : (ai != 3276800) = false := bne_eq_false_iff_eq.mpr c3
  clear c3
  by_cases c4 : aj = 131072
  ·rw [if_pos c4] at H
   have aX : (aj == 131072) = true := beq_iff_eq.mpr c4
   have aY : (aj != 131072) = false := bne_eq_false_iff_eq.mpr c4
   clear c4
   by_cases c5 : am = 393216
   ·rw [if_pos c5] at H
    have aZ : (am == 393216) = true := beq_iff_eq.mpr c5
    have a0 : (am != 393216) = false := bne_eq_false_iff_eq.mpr c5
    clear c5
    by_cases c6 : an = 393216
    ·rw [if_pos c6] at H
     have a1 : (an == 393216) = true := beq_iff_eq.mpr c6
     have a2 : (an != 393216) = false := bne_eq_false_iff_eq.mpr c6
     clear c6
     by_cases c7 : aB = 0
     ·rw [if_pos c7] at H
      have a3 : (aB == 0) = true := beq_iff_eq.mpr c7
      have a4 : (aB != 0) = false := bne_eq_false_iff_eq.mpr c7
      clear c7
      replace H := Option.bind_eq_some_iff.mp H
      obtain ⟨ah, A80, H⟩ := H
      replace H : (if ah = 393216 then (if aC = 128 then (some (aM == 0)) else (some false)) else (some false)) = some r := H
      have A8 := A_.mk A80
      clear A80
      by_cases c9 : ah = 393216
      ·rw [if_pos c9] at H
       have a5 : (ah == 393216) = true := beq_iff_eq.mpr c9
       have a6 : (ah != 393216) = false := bne_eq_false_iff_eq.mpr c9
       clear c9
       by_cases c10 : aC = 128
       ·rw [if_pos c10] at H
        have aP : (aC == 128) = true := beq_iff_eq.mpr c10
        have aQ : (aC != 128) = false := bne_eq_false_iff_eq.mpr c10
        clear c10
        obtain rfl := Option.some.inj H
        go_enter Tryd.func6, Tryd.ntmps6
        go_wp2_with (first | ((with_reducible refine O_ (N := 9) rfl ?_); refine Kd.R_lit k54 _ 54 ?hg (N := 9) ?hd (xs := ([(⟨0, (⟨0, 0, 2, 1⟩ : S50), (⟨0, 0, 0⟩ : S52)⟩ : S54)] : List (S54))) (inner := [.int .i64 0, .int .i64 0, .int .i64 0, .int .i64 2, .int .i64 1, .int .i64 0, .int .i64 0, .int .i64 0]) (ok := fun _ => True) (okp := fun _ => True) ?hr ?hp (fun _ hk => hk) trivial (Below.refl _ _) (Nat.le_refl _) (by simp) ?_; (case hd => rfl); (case hg => rfl); (case hr => first | (go_simp; done) | (go_simp; rfl)); (case hp => exact (Reps.c8 (show Kd.M k54 _ _ _ (⟨0, (⟨0, 0, 2, 1⟩ : S50), (⟨0, 0, 0⟩ : S52)⟩ : S54) [.int .i64 0, .int .i64 0, .int .i64 0, .int .i64 2, .int .i64 1, .int .i64 0, .int .i64 0, .int .i64 0] from (k54_mkM _ _ _ (⟨0, (⟨0, 0, 2, 1⟩ : S50), (⟨0, 0, 0⟩ : S52)⟩ : S54) )) (Reps.none _ _))); intro v254 bV aI hb hg_ hnew_; clear hg_ hnew_; (first | rw [← Ny253.out] at aI | (simp only [Int.reduceToNat] at aI; rw [← Ny253.out] at aI)); have ao := A_.mk (Kd.R_lower aI (G_ (by exact lB HB.out))); have ap := A_.mk (E_ (by exact lB HB.out) hb); clear HB; have af := ao; have HB := ap; clear ao ap; clear hb aI) | ((with_reducible refine O_ (N := 10) rfl ?_); refine Kd.R_lit Kd.string _ 9 ?hg (N := 10) ?hd (xs := ([(⟨#[0, 2, 4, 6, 100, 2, 8, 6]⟩ : ByteArray)] : List ByteArray)) (inner := [.string (⟨#[0, 2, 4, 6, 100, 2, 8, 6]⟩ : ByteArray)]) (ok := fun _ => True) (okp := fun _ => True) ?hr ?hp (fun _ hk => hk) trivial (Below.refl _ _) (Nat.le_refl _) (by simp) ?_; (case hd => rfl); (case hg => rfl); (case hr => first | (go_simp; done) | (go_simp; rfl)); (case hp => exact (Reps.one (show Kd.M Kd.string _ _ _ (⟨#[0, 2, 4, 6, 100, 2, 8, 6]⟩ : ByteArray) [.string (⟨#[0, 2, 4, 6, 100, 2, 8, 6]⟩ : ByteArray)] from rfl) (Reps.none _ _))); intro v257 bW aJ hb hg_ hnew_; clear hg_ hnew_; (first | rw [← Ny256.out] at aJ | (simp only [Int.reduceToNat] at aJ; rw [← Ny256.out] at aJ)); have ao := A_.mk (Kd.R_below (by (with_reducible repeat (first | apply Kd.R_alloc | apply Kd.R_drewN | apply Kd.R_drew)); exact af.out) hb); have ap := A_.mk (Kd.R_lower aJ (G_ (by exact lB HB.out))); have av := A_.mk (E_ (by exact lB HB.out) hb); clear af; clear HB; have af := ao; have ag := ap; have HB := av; clear ao ap av; clear hb aJ; obtain ⟨ay, ax, eo15⟩ := Kd.R_slice ag.out; subst eo15; obtain ⟨au, ar, eo16⟩ := Kd.R_slice af.out; subst eo16) | ((with_reducible refine O_ (N := 1) rfl ?_); refine N_ ?hg (N := 1) ?hd (cs := #[.int .i64 0, .int .i64 0, .int .i64 0, .int .i64 0, .int .i64 0, .int .i64 0, .int .i64 0, .int .i64 0, .slice none 0 0, .slice none 0 0, .slice none 0 0]) (t := 28) ?hr ?_; (case hd => rfl); (case hg => rfl); (case hr => first | (go_simp; done) | (go_simp; rfl)); intro aa hg aD hbox hb; have ao := A_.mk (Kd.R_below (by (with_reducible repeat (first | apply Kd.R_alloc | apply Kd.R_drewN | apply Kd.R_drew)); exact af.out) hb); have ap := A_.mk (Kd.R_below (by (with_reducible repeat (first | apply Kd.R_alloc | apply Kd.R_drewN | apply Kd.R_drew)); exact ag.out) hb); have av := A_.mk (E_ (by exact lB HB.out) hb); have az := A_.mk (hbox); have aE := A_.mk ((by rw [hg]; exact (G_ (by exact lB HB.out)) : w.heap.size ≤ aa)); have aK := A_.mk ((by rw [hg]; exact (G_ (by exact lB HB.out)) : w.heap.size ≤ aa)); clear af; clear ag; clear HB; have af := ao; have ag := ap; have HB := av; have ab := az; have bL := aE; have aA := aK; clear ao ap av az aE aK; clear hb hbox hg; have a9 : aD.cell? ⟨aa, 0, none⟩ = some (.int .i64 0) := (D_ ab.out 0).trans rfl; have ba : aD.cell? ⟨aa, 1, none⟩ = some (.int .i64 0) := (D_ ab.out 1).trans rfl; have bb : aD.cell? ⟨aa, 2, none⟩ = some (.int .i64 0) := (D_ ab.out 2).trans rfl; have bc : aD.cell? ⟨aa, 3, none⟩ = some (.int .i64 0) := (D_ ab.out 3).trans rfl; have bd : aD.cell? ⟨aa, 4, none⟩ = some (.int .i64 0) := (D_ ab.out 4).trans rfl; have be : aD.cell? ⟨aa, 5, none⟩ = some (.int .i64 0) := (D_ ab.out 5).trans rfl; have bf : aD.cell? ⟨aa, 6, none⟩ = some (.int .i64 0) := (D_ ab.out 6).trans rfl; have bg : aD.cell? ⟨aa, 7, none⟩ = some (.int .i64 0) := (D_ ab.out 7).trans rfl; have bh : aD.cell? ⟨aa, 8, none⟩ = some (.slice none 0 0) := (D_ ab.out 8).trans rfl; have bi : aD.cell? ⟨aa, 9, none⟩ = some (.slice none 0 0) := (D_ ab.out 9).trans rfl; have a7 : aD.cell? ⟨aa, 10, none⟩ = some (.slice none 0 0) := (D_ ab.out 10).trans rfl; have bj := B_ ab.out 0; have bk := B_ ab.out 1; have bl := B_ ab.out 2; have bm := B_ ab.out 3; have bn := B_ ab.out 4; have bo := B_ ab.out 5; have bp := B_ ab.out 6; have bq := B_ ab.out 7; have br := B_ ab.out 8; have bs := B_ ab.out 9; have a8 := B_ ab.out 10) | ((with_reducible refine P_ (f := 8) rfl ?_); refine R_ (some 14) rfl rfl Tryd.func8 (by kernel_rfl) rfl #[.agg #[.int .i64 16, .int .i64 1, .int .i64 1, .int .i64 0, .int .i64 0, .int .i64 0, .int .i64 2, .int .i64 1, .slice au al.length ar, .slice none 0 0, .slice ay aq.length ax], .int .i64 0, .int .i64 128, .int .i64 0] rfl (by (try simp only [List.map_toArray, List.map_cons, List.map_nil]); first | done | rfl | (simp only [List.length_drop, List.length_take]; rfl)) ?_; (refine (sample_At.calls k 16 1 1 0 0 0 2 1 _ _ al _ _ ([] : List (S84)) _ _ aq 0 128 0 ai aj am an aB _ ?side1 ?side2 ?side3 ?side4 ?side5 ?side6 A1.out).mono ?_); (case side1 => refine (Kd.R_reads' (e := 54) (base := w.heap.size) (ok := fun k_ => True) (n := al.length) (c := ar) ?_).2.2; exact (by (with_reducible repeat (first | apply Kd.R_alloc | apply Kd.R_drewN | apply Kd.R_drew)); exact (Kd.R_mono (Kd.R_far (p := ⟨aa, 10, none⟩) (Kd.R_far (p := ⟨aa, 9, none⟩) (Kd.R_far (p := ⟨aa, 8, none⟩) (Kd.R_far (p := ⟨aa, 7, none⟩) (Kd.R_far (p := ⟨aa, 6, none⟩) (Kd.R_far (p := ⟨aa, 5, none⟩) (Kd.R_far (p := ⟨aa, 4, none⟩) (Kd.R_far (p := ⟨aa, 3, none⟩) (Kd.R_far (p := ⟨aa, 2, none⟩) (Kd.R_far (p := ⟨aa, 1, none⟩) (Kd.R_far (p := ⟨aa, 0, none⟩) (Kd.R_types af.out ab.out (by decide)) (fun _ hk => hk.2) (.int .i64 16)) (fun _ hk => hk.2) (.int .i64 1)) (fun _ hk => hk.2) (.int .i64 1)) (fun _ hk => hk.2) (.int .i64 0)) (fun _ hk => hk.2) (.int .i64 0)) (fun _ hk => hk.2) (.int .i64 0)) (fun _ hk => hk.2) (.int .i64 2)) (fun _ hk => hk.2) (.int .i64 1)) (fun _ hk => hk.2) (.slice au al.length ar)) (fun _ hk => hk.2) (.slice none 0 0)) (fun _ hk => hk.2) (.slice ay aq.length ax)) (fun _ h_ => h_.1)))); (case side2 => exact (Kd.R_reads' af.out).2.1); (case side3 => exact Kd.C_nil _ _); (case side4 => exact Nat.le_refl _); (case side5 => refine (Kd.R_reads' (e := 9) (base := w.heap.size) (ok := fun k_ => True) (n := aq.length) (c := ax) ?_).2.2; exact (by (with_reducible repeat (first | apply Kd.R_alloc | apply Kd.R_drewN | apply Kd.R_drew)); exact (Kd.R_mono (Kd.R_far (p := ⟨aa, 10, none⟩) (Kd.R_far (p := ⟨aa, 9, none⟩) (Kd.R_far (p := ⟨aa, 8, none⟩) (Kd.R_far (p := ⟨aa, 7, none⟩) (Kd.R_far (p := ⟨aa, 6, none⟩) (Kd.R_far (p := ⟨aa, 5, none⟩) (Kd.R_far (p := ⟨aa, 4, none⟩) (Kd.R_far (p := ⟨aa, 3, none⟩) (Kd.R_far (p := ⟨aa, 2, none⟩) (Kd.R_far (p := ⟨aa, 1, none⟩) (Kd.R_far (p := ⟨aa, 0, none⟩) (Kd.R_types ag.out ab.out (by decide)) (fun _ hk => hk.2) (.int .i64 16)) (fun _ hk => hk.2) (.int .i64 1)) (fun _ hk => hk.2) (.int .i64 1)) (fun _ hk => hk.2) (.int .i64 0)) (fun _ hk => hk.2) (.int .i64 0)) (fun _ hk => hk.2) (.int .i64 0)) (fun _ hk => hk.2) (.int .i64 2)) (fun _ hk => hk.2) (.int .i64 1)) (fun _ hk => hk.2) (.slice au al.length ar)) (fun _ hk => hk.2) (.slice none 0 0)) (fun _ hk => hk.2) (.slice ay aq.length ax)) (fun _ h_ => h_.1)))); (case side6 => exact (Kd.R_reads' ag.out).2.1); rintro e bX ⟨rfl, hb⟩; refine ⟨_, rfl, ?_⟩; have ao := A_.mk (Kd.R_below (by (with_reducible repeat (first | apply Kd.R_alloc | apply Kd.R_drewN | apply Kd.R_drew)); exact (Kd.R_mono (Kd.R_far (p := ⟨aa, 10, none⟩) (Kd.R_far (p := ⟨aa, 9, none⟩) (Kd.R_far (p := ⟨aa, 8, none⟩) (Kd.R_far (p := ⟨aa, 7, none⟩) (Kd.R_far (p := ⟨aa, 6, none⟩) (Kd.R_far (p := ⟨aa, 5, none⟩) (Kd.R_far (p := ⟨aa, 4, none⟩) (Kd.R_far (p := ⟨aa, 3, none⟩) (Kd.R_far (p := ⟨aa, 2, none⟩) (Kd.R_far (p := ⟨aa, 1, none⟩) (Kd.R_far (p := ⟨aa, 0, none⟩) (Kd.R_types af.out ab.out (by decide)) (fun _ hk => hk.2) (.int .i64 16)) (fun _ hk => hk.2) (.int .i64 1)) (fun _ hk => hk.2) (.int .i64 1)) (fun _ hk => hk.2) (.int .i64 0)) (fun _ hk => hk.2) (.int .i64 0)) (fun _ hk => hk.2) (.int .i64 0)) (fun _ hk => hk.2) (.int .i64 2)) (fun _ hk => hk.2) (.int .i64 1)) (fun _ hk => hk.2) (.slice au al.length ar)) (fun _ hk => hk.2) (.slice none 0 0)) (fun _ hk => hk.2) (.slice ay aq.length ax)) (fun _ h_ => h_.1))) hb); have ap := A_.mk (Kd.R_below (by (with_reducible repeat (first | apply Kd.R_alloc | apply Kd.R_drewN | apply Kd.R_drew)); exact (Kd.R_mono (Kd.R_far (p := ⟨aa, 10, none⟩) (Kd.R_far (p := ⟨aa, 9, none⟩) (Kd.R_far (p := ⟨aa, 8, none⟩) (Kd.R_far (p := ⟨aa, 7, none⟩) (Kd.R_far (p := ⟨aa, 6, none⟩) (Kd.R_far (p := ⟨aa, 5, none⟩) (Kd.R_far (p := ⟨aa, 4, none⟩) (Kd.R_far (p := ⟨aa, 3, none⟩) (Kd.R_far (p := ⟨aa, 2, none⟩) (Kd.R_far (p := ⟨aa, 1, none⟩) (Kd.R_far (p := ⟨aa, 0, none⟩) (Kd.R_types ag.out ab.out (by decide)) (fun _ hk => hk.2) (.int .i64 16)) (fun _ hk => hk.2) (.int .i64 1)) (fun _ hk => hk.2) (.int .i64 1)) (fun _ hk => hk.2) (.int .i64 0)) (fun _ hk => hk.2) (.int .i64 0)) (fun _ hk => hk.2) (.int .i64 0)) (fun _ hk => hk.2) (.int .i64 2)) (fun _ hk => hk.2) (.int .i64 1)) (fun _ hk => hk.2) (.slice au al.length ar)) (fun _ hk => hk.2) (.slice none 0 0)) (fun _ hk => hk.2) (.slice ay aq.length ax)) (fun _ h_ => h_.1))) hb); have av := A_.mk (F_ (g := aa) (o := .cells #[.int .i64 16, .int .i64 1, .int .i64 1, .int .i64 0, .int .i64 0, .int .i64 0, .int .i64 2, .int .i64 1, .slice au al.length ar, .slice none 0 0, .slice ay aq.length ax] 28 (0, 0)) (by refine kB ?_; refine L_ (cs := #[.int .i64 16, .int .i64 1, .int .i64 1, .int .i64 0, .int .i64 0, .int .i64 0, .int .i64 2, .int .i64 1, .slice au al.length ar, .slice none 0 0, .slice none 0 0]) ?_ 10 _ rfl; refine kB ?_; refine L_ (cs := #[.int .i64 16, .int .i64 1, .int .i64 1, .int .i64 0, .int .i64 0, .int .i64 0, .int .i64 2, .int .i64 1, .slice au al.length ar, .slice none 0 0, .slice none 0 0]) ?_ 9 _ rfl; refine kB ?_; refine L_ (cs := #[.int .i64 16, .int .i64 1, .int .i64 1, .int .i64 0, .int .i64 0, .int .i64 0, .int .i64 2, .int .i64 1, .slice none 0 0, .slice none 0 0, .slice none 0 0]) ?_ 8 _ rfl; refine kB ?_; refine L_ (cs := #[.int .i64 16, .int .i64 1, .int .i64 1, .int .i64 0, .int .i64 0, .int .i64 0, .int .i64 2, .int .i64 0, .slice none 0 0, .slice none 0 0, .slice none 0 0]) ?_ 7 _ rfl; refine kB ?_; refine L_ (cs := #[.int .i64 16, .int .i64 1, .int .i64 1, .int .i64 0, .int .i64 0, .int .i64 0, .int .i64 0, .int .i64 0, .slice none 0 0, .slice none 0 0, .slice none 0 0]) ?_ 6 _ rfl; refine kB ?_; refine L_ (cs := #[.int .i64 16, .int .i64 1, .int .i64 1, .int .i64 0, .int .i64 0, .int .i64 0, .int .i64 0, .int .i64 0, .slice none 0 0, .slice none 0 0, .slice none 0 0]) ?_ 5 _ rfl; refine kB ?_; refine L_ (cs := #[.int .i64 16, .int .i64 1, .int .i64 1, .int .i64 0, .int .i64 0, .int .i64 0, .int .i64 0, .int .i64 0, .slice none 0 0, .slice none 0 0, .slice none 0 0]) ?_ 4 _ rfl; refine kB ?_; refine L_ (cs := #[.int .i64 16, .int .i64 1, .int .i64 1, .int .i64 0, .int .i64 0, .int .i64 0, .int .i64 0, .int .i64 0, .slice none 0 0, .slice none 0 0, .slice none 0 0]) ?_ 3 _ rfl; refine kB ?_; refine L_ (cs := #[.int .i64 16, .int .i64 1, .int .i64 0, .int .i64 0, .int .i64 0, .int .i64 0, .int .i64 0, .int .i64 0, .slice none 0 0, .slice none 0 0, .slice none 0 0]) ?_ 2 _ rfl; refine kB ?_; refine L_ (cs := #[.int .i64 16, .int .i64 0, .int .i64 0, .int .i64 0, .int .i64 0, .int .i64 0, .int .i64 0, .int .i64 0, .slice none 0 0, .slice none 0 0, .slice none 0 0]) ?_ 1 _ rfl; refine kB ?_; refine L_ (cs := #[.int .i64 0, .int .i64 0, .int .i64 0, .int .i64 0, .int .i64 0, .int .i64 0, .int .i64 0, .int .i64 0, .slice none 0 0, .slice none 0 0, .slice none 0 0]) ?_ 0 _ rfl; refine kB ?_; exact ab.out) hb); have az := A_.mk (E_ (by exact lB HB.out) hb); clear af; clear ag; clear ab; clear HB; have af := ao; have ag := ap; have ab := av; have HB := az; clear ao ap av az; (try clear hb); (try clear aR); (try clear hk); (try clear hi)) | ((with_reducible refine O_ (N := 2) rfl ?_); refine N_ ?hg (N := 2) ?hd (cs := #[.int .i64 0, .int .i64 0, .int .i64 0, .int .i64 0]) (t := 32) ?hr ?_; (case hd => rfl); (case hg => rfl); (case hr => first | (go_simp; done) | (go_simp; rfl)); intro ae hg aN hbox hb; have ao := A_.mk (Kd.R_below (by (with_reducible repeat (first | apply Kd.R_alloc | apply Kd.R_drewN | apply Kd.R_drew)); exact af.out) hb); have ap := A_.mk (Kd.R_below (by (with_reducible repeat (first | apply Kd.R_alloc | apply Kd.R_drewN | apply Kd.R_drew)); exact ag.out) hb); have av := A_.mk (F_ (g := aa) (o := .cells #[.int .i64 16, .int .i64 1, .int .i64 1, .int .i64 0, .int .i64 0, .int .i64 0, .int .i64 2, .int .i64 1, .slice au al.length ar, .slice none 0 0, .slice ay aq.length ax] 28 (0, 0)) (by refine kB ?_; exact ab.out) hb); have az := A_.mk (E_ (by exact lB HB.out) hb); have aE := A_.mk (hbox); have aK := A_.mk ((by rw [hg]; exact (G_ (by exact lB HB.out)) : w.heap.size ≤ ae)); have aS := A_.mk ((by rw [hg]; exact (G_ (by exact lB HB.out)) : w.heap.size ≤ ae)); have aT := A_.mk ((by rw [hg]; exact Nat.ne_of_lt (M_ (g := aa) (o := .cells #[.int .i64 16, .int .i64 1, .int .i64 1, .int .i64 0, .int .i64 0, .int .i64 0, .int .i64 2, .int .i64 1, .slice au al.length ar, .slice none 0 0, .slice ay aq.length ax] 28 (0, 0)) (by refine kB ?_; exact ab.out)) : aa ≠ ae)); have aU := A_.mk ((by rw [hg]; exact Nat.ne_of_gt (M_ (g := aa) (o := .cells #[.int .i64 16, .int .i64 1, .int .i64 1, .int .i64 0, .int .i64 0, .int .i64 0, .int .i64 2, .int .i64 1, .slice au al.length ar, .slice none 0 0, .slice ay aq.length ax] 28 (0, 0)) (by refine kB ?_; exact ab.out)) : ae ≠ aa)); clear af; clear ag; clear ab; clear HB; have af := ao; have ag := ap; have ab := av; have HB := az; have ad := aE; have bM := aK; have aH := aS; have aw := aT; have aL := aU; clear ao ap av az aE aK aS aT aU; clear hb hbox hg; have bN := aL.out; have bO := aw.out; have bu : aN.cell? ⟨ae, 0, none⟩ = some (.int .i64 0) := (D_ ad.out 0).trans rfl; have bv : aN.cell? ⟨ae, 1, none⟩ = some (.int .i64 0) := (D_ ad.out 1).trans rfl; have bw : aN.cell? ⟨ae, 2, none⟩ = some (.int .i64 0) := (D_ ad.out 2).trans rfl; have bx : aN.cell? ⟨ae, 3, none⟩ = some (.int .i64 0) := (D_ ad.out 3).trans rfl; have bz := B_ ad.out 0; have bA := B_ ad.out 1; have bB := B_ ad.out 2; have bC := B_ ad.out 3) | ((with_reducible refine P_ (f := 12) rfl ?_); refine R_ (some 19) rfl rfl Tryd.func12 (by kernel_rfl) rfl #[.int .i64 8388608, .int .i64 1, .agg #[.int .i64 1, .int .i64 1]] rfl (by (try simp only [List.map_toArray, List.map_cons, List.map_nil]); first | done | rfl | (simp only [List.length_drop, List.length_take]; rfl)) ?_; (with_reducible refine (sample_Cover.calls k 8388608 1 1 1 aC aM _ A2.out (hTab.below (by exact lB HB.out))).mono ?_); rintro e aO ⟨rfl, hb⟩; refine ⟨_, rfl, ?_⟩; have ao := A_.mk (Kd.R_below (by (with_reducible repeat (first | apply Kd.R_alloc | apply Kd.R_drewN | apply Kd.R_drew)); exact (Kd.R_mono (Kd.R_far (p := ⟨ae, 3, none⟩) (Kd.R_far (p := ⟨ae, 2, none⟩) (Kd.R_far (p := ⟨ae, 1, none⟩) (Kd.R_far (p := ⟨ae, 0, none⟩) (Kd.R_types af.out ad.out (by decide)) (fun _ hk => hk.2) (.int .i64 ai)) (fun _ hk => hk.2) (.int .i64 aj)) (fun _ hk => hk.2) (.int .i64 am)) (fun _ hk => hk.2) (.int .i64 an)) (fun _ h_ => h_.1))) hb); have ap := A_.mk (Kd.R_below (by (with_reducible repeat (first | apply Kd.R_alloc | apply Kd.R_drewN | apply Kd.R_drew)); exact (Kd.R_mono (Kd.R_far (p := ⟨ae, 3, none⟩) (Kd.R_far (p := ⟨ae, 2, none⟩) (Kd.R_far (p := ⟨ae, 1, none⟩) (Kd.R_far (p := ⟨ae, 0, none⟩) (Kd.R_types ag.out ad.out (by decide)) (fun _ hk => hk.2) (.int .i64 ai)) (fun _ hk => hk.2) (.int .i64 aj)) (fun _ hk => hk.2) (.int .i64 am)) (fun _ hk => hk.2) (.int .i64 an)) (fun _ h_ => h_.1))) hb); have av := A_.mk (F_ (g := aa) (o := .cells #[.int .i64 16, .int .i64 1, .int .i64 1, .int .i64 0, .int .i64 0, .int .i64 0, .int .i64 2, .int .i64 1, .slice au al.length ar, .slice none 0 0, .slice ay aq.length ax] 28 (0, 0)) (by refine kB ?_; refine J_ ?_ aw.out _; refine kB ?_; refine J_ ?_ aw.out _; refine kB ?_; refine J_ ?_ aw.out _; refine kB ?_; refine J_ ?_ aw.out _; refine kB ?_; exact ab.out) hb); have az := A_.mk (F_ (g := ae) (o := .cells #[.int .i64 ai, .int .i64 aj, .int .i64 am, .int .i64 an] 32 (0, 0)) (by refine kB ?_; refine L_ (cs := #[.int .i64 ai, .int .i64 aj, .int .i64 am, .int .i64 0]) ?_ 3 _ rfl; refine kB ?_; refine L_ (cs := #[.int .i64 ai, .int .i64 aj, .int .i64 0, .int .i64 0]) ?_ 2 _ rfl; refine kB ?_; refine L_ (cs := #[.int .i64 ai, .int .i64 0, .int .i64 0, .int .i64 0]) ?_ 1 _ rfl; refine kB ?_; refine L_ (cs := #[.int .i64 0, .int .i64 0, .int .i64 0, .int .i64 0]) ?_ 0 _ rfl; refine kB ?_; exact ad.out) hb); have aE := A_.mk (E_ (by exact lB HB.out) hb); clear af; clear ag; clear ab; clear ad; clear HB; have af := ao; have ag := ap; have ab := av; have ad := az; have HB := aE; clear ao ap av az aE; (try clear hb); (try clear aR); (try clear hk); (try clear hi); have bD : aO.cell? ⟨ae, 0, none⟩ = some (.int .i64 ai) := (D_ ad.out 0).trans rfl; have bE : aO.cell? ⟨ae, 1, none⟩ = some (.int .i64 aj) := (D_ ad.out 1).trans rfl; have bF : aO.cell? ⟨ae, 2, none⟩ = some (.int .i64 am) := (D_ ad.out 2).trans rfl; have bG : aO.cell? ⟨ae, 3, none⟩ = some (.int .i64 an) := (D_ ad.out 3).trans rfl; have bH := B_ ad.out 0; have bI := B_ ad.out 1; have bJ := B_ ad.out 2; have bK := B_ ad.out 3) | (go_at_call 10; (with_reducible refine (sample_Median.calls ai aj am an ah _ A8.out).mono ?_); rintro e bY ⟨rfl, hb⟩; have ao := A_.mk (Kd.R_below (by (with_reducible repeat (first | apply Kd.R_alloc | apply Kd.R_drewN | apply Kd.R_drew)); exact af.out) hb); have ap := A_.mk (Kd.R_below (by (with_reducible repeat (first | apply Kd.R_alloc | apply Kd.R_drewN | apply Kd.R_drew)); exact ag.out) hb); have av := A_.mk (F_ (g := aa) (o := .cells #[.int .i64 16, .int .i64 1, .int .i64 1, .int .i64 0, .int .i64 0, .int .i64 0, .int .i64 2, .int .i64 1, .slice au al.length ar, .slice none 0 0, .slice ay aq.length ax] 28 (0, 0)) (by refine kB ?_; exact ab.out) hb); have az := A_.mk (F_ (g := ae) (o := .cells #[.int .i64 ai, .int .i64 aj, .int .i64 am, .int .i64 an] 32 (0, 0)) (by refine kB ?_; exact ad.out) hb); have aE := A_.mk (E_ (by exact lB HB.out) hb); clear af; clear ag; clear ab; clear ad; clear HB; have af := ao; have ag := ap; have ab := av; have ad := az; have HB := aE; clear ao ap av az aE; (try clear hb); (try clear aR); (try clear hk); (try clear hi)))
        go_ret
        exact ⟨by first | rfl | (simp [errW_none, errW_some] <;> rfl) | (simp [*, errW_none, errW_some] <;> rfl), by exact lB HB.out⟩
       ·rw [if_neg c10] at H
        have aP : (aC == 128) = false := beq_eq_false_iff_ne.mpr c10
        have aQ : (aC != 128) = true := bne_iff_ne.mpr c10
        obtain rfl := Option.some.inj H
        exact absurd HKP.out (by decide)
      ·rw [if_neg c9] at H
       have a5 : (ah == 393216) = false := beq_eq_false_iff_ne.mpr c9
       have a6 : (ah != 393216) = true := bne_iff_ne.mpr c9
       obtain rfl := Option.some.inj H
       exact absurd HKP.out (by decide)
     ·rw [if_neg c7] at H
      have a3 : (aB == 0) = false := beq_eq_false_iff_ne.mpr c7
      have a4 : (aB != 0) = true := bne_iff_ne.mpr c7
      obtain rfl := Option.some.inj H
      exact absurd HKP.out (by decide)
    ·rw [if_neg c6] at H
     have a1 : (an == 393216) = false := beq_eq_false_iff_ne.mpr c6
     have a2 : (an != 393216) = true := bne_iff_ne.mpr c6
     obtain rfl := Option.some.inj H
     exact absurd HKP.out (by decide)
   ·rw [if_neg c5] at H
    have aZ : (am == 393216) = false := beq_eq_false_iff_ne.mpr c5
    have a0 : (am != 393216) = true := bne_iff_ne.mpr c5
    obtain rfl := Option.some.inj H
    exact absurd HKP.out (by decide)
  ·rw [if_neg c4] at H
   have aX : (aj == 131072) = false := beq_eq_false_iff_ne.mpr c4
   have aY : (aj != 131072) = true := bne_iff_ne.mpr c4
   obtain rfl := Option.some.inj H
   exact absurd HKP.out (by decide)
 ·rw [if_neg c3] at H
  have aV : (ai == 3276800) = false := beq_eq_false_iff_ne.mpr c3
  have aW : (ai != 3276800) = true := bne_iff_ne.mpr c3
  obtain rfl := Option.some.inj H
  exact absurd HKP.out (by decide)
def pochoirlaw32_awake.f (k : Nat)  : Option (Bool) := (pochoirlaw32_awake.g k ).bind fun b => if b = true then some true else none
theorem pochoirlaw32_awake.mono : ∀ k, LeO (pochoirlaw32_awake.f k) (pochoirlaw32_awake.f (k + 1)) := fun k => LeO.bind (pochoirlaw32_awake.gmono k) (fun _ => LeO.refl _)
theorem pochoirlaw32_awake.calls (k : Nat)  (r : Bool) (w : World) (h : pochoirlaw32_awake.f k  = some r) (hTab : HasTab w) :
  Calls Tryd.prog 6 #[] w fun e w' => e = .returned (.bool r) ∧ Below w.heap.size w w' := by
 have h' := h
 unfold pochoirlaw32_awake.f at h'
 obtain ⟨b, hb, h'⟩ := Option.bind_eq_some_iff.mp h'
 split at h'
 ·rename_i hbt
  obtain rfl := Option.some.inj h'
  rw [hbt] at hb
  exact pochoirlaw32_awake.gcalls k true w rfl hb hTab
 ·cases h'

end Go.Proofs.YtjcgmjhcaaaieaaDoor.Pr
