-- printed by a program of this session's (wip/mp.sh), out of the translation; the texts of its folder 'given' are typed by hand
-- shortened (wip/short.py)
import Derived.Test.YtjcgmjhcaaaieaaDoorPr0
namespace Go.Proofs.YtjcgmjhcaaaieaaDoor.Pr
open Go.RowKit Go.Proofs.YtjcgmjhcaaaieaaDoorW.PrintWords Go.Proofs.YtjcgmjhcaaaieaaDoorW.PrintLast Go.Proofs.YtjcgmjhcaaaieaaDoorW.PrintMore
attribute [local go_sem] max2_int min2_int max_two min_two max_three min_three max_four min_four   -- for this text's walks alone
attribute [local go_sem high] eqA32
set_option linter.unusedVariables false
set_option linter.unusedSimpArgs false

/-! ### sample_sampler_texel: function 32 -/
def sample_sampler_texel.f (aa : ByteArray) (ad : Int) (ao : Int) (ae : Int) (af : Int) (a1 : Int) (a2 : Int) : Option (Int × Int × Int × Int) := if 0 ≤ (wrap64 (4 * (wrap64 ((wrap64 ((wrap64 ((wrap64 (af + a2)) * ad)) + ae)) + a1)))) then (if (wrap64 (4 * (wrap64 ((wrap64 ((wrap64 ((wrap64 (af + a2)) * ad)) + ae)) + a1)))) < (aa.size : Int) then (if 0 ≤ (wrap64 ((wrap64 (4 * (wrap64 ((wrap64 ((wrap64 ((wrap64 (af + a2)) * ad)) + ae)) + a1)))) + 1)) then (if (wrap64 ((wrap64 (4 * (wrap64 ((wrap64 ((wrap64 ((wrap64 (af + a2)) * ad)) + ae)) + a1)))) + 1)) < (aa.size : Int) then (if 0 ≤ (wrap64 ((wrap64 (4 * (wrap64 ((wrap64 ((wrap64 ((wrap64 (af + a2)) * ad)) + ae)) + a1)))) + 2)) then (if (wrap64 ((wrap64 (4 * (wrap64 ((wrap64 ((wrap64 ((wrap64 (af + a2)) * ad)) + ae)) + a1)))) + 2)) < (aa.size : Int) then (if 0 ≤ (wrap64 ((wrap64 (4 * (wrap64 ((wrap64 ((wrap64 ((wrap64 (af + a2)) * ad)) + ae)) + a1)))) + 3)) then (if (wrap64 ((wrap64 (4 * (wrap64 ((wrap64 ((wrap64 ((wrap64 (af + a2)) * ad)) + ae)) + a1)))) + 3)) < (aa.size : Int) then (some (wrap64 (bt aa (wrap64 (4 * (wrap64 ((wrap64 ((wrap64 ((wrap64 (af + a2)) * ad)) + ae)) + a1))))), wrap64 (bt aa (wrap64 ((wrap64 (4 * (wrap64 ((wrap64 ((wrap64 ((wrap64 (af + a2)) * ad)) + ae)) + a1)))) + 1))), wrap64 (bt aa (wrap64 ((wrap64 (4 * (wrap64 ((wrap64 ((wrap64 ((wrap64 (af + a2)) * ad)) + ae)) + a1)))) + 2))), wrap64 (bt aa (wrap64 ((wrap64 (4 * (wrap64 ((wrap64 ((wrap64 ((wrap64 (af + a2)) * ad)) + ae)) + a1)))) + 3))))) else (none)) else (none)) else (none)) else (none)) else (none)) else (none)) else (none)) else (none)
def sample_sampler_texel.T2 : Bool × List (List Nat × List Nat) := (true, [([], []), ([0], [0]), ([], []), ([1, 2], [1, 2]), ([3], [3]), ([], []), ([5], [5]), ([], []), ([7], [7]), ([6, 8], [6, 8]), ([9], [9]), ([], []), ([11], [11]), ([], []), ([13], [13]), ([12, 14], [12, 14]), ([15], [15]), ([], []), ([17], [17]), ([], []), ([19], [19]), ([18, 20], [18, 20]), ([21], [21]), ([4, 10, 16, 22], [4, 10, 16, 22]), ([23, 0, 1, 2, 3, 4, 5, 6, 7, 8, 9, 10, 11, 12, 13, 14, 15, 16, 17, 18, 19, 20, 21, 22, 23], [23])])
def sample_sampler_texel.B2 : List Nat := [0, 1, 0, 7, 15, 0, 32, 0, 128, 480, 992, 0, 2048, 0, 8192, 30720, 63488, 0, 131072, 0, 524288, 1966080, 4063232, 8388607, 16777215]
theorem sample_sampler_texel.tab2 : rtab .any (opsOf Tryd.f32 2) = sample_sampler_texel.T2 := by kernel_rfl
theorem sample_sampler_texel.bits2 : waitsOk sample_sampler_texel.T2.2 sample_sampler_texel.B2 = true := by kernel_rfl
set_option maxHeartbeats 8000000 in
set_option maxRecDepth 100000 in
theorem sample_sampler_texel.calls (aa : ByteArray) (ad : Int) (ao : Int) (ae : Int) (af : Int) (a1 : Int) (a2 : Int) (r1 : Int) (r2 : Int) (r3 : Int) (r4 : Int) (w : World) (h : sample_sampler_texel.f aa ad ao ae af a1 a2 = some (r1, r2, r3, r4)) :
  Calls Tryd.prog 32 #[.agg #[.string aa, .int .i64 ad, .int .i64 ao, .int .i64 ae, .int .i64 af], .int .i64 a1, .int .i64 a2] w fun e w' => e = .returned (.agg #[.int .i64 r1, .int .i64 r2, .int .i64 r3, .int .i64 r4]) ∧ Below w.heap.size w w' := by
 have bh := Tryd.underlying62
 have bi := Tryd.underlying32
 have HB := A_.mk (Below.refl w.heap.size w)
 have H : (if 0 ≤ (wrap64 (4 * (wrap64 ((wrap64 ((wrap64 ((wrap64 (af + a2)) * ad)) + ae)) + a1)))) then (if (wrap64 (4 * (wrap64 ((wrap64 ((wrap64 ((wrap64 (af + a2)) * ad)) + ae)) + a1)))) < (aa.size : Int) then (if 0 ≤ (wrap64 ((wrap64 (4 * (wrap64 ((wrap64 ((wrap64 ((wrap64 (af + a2)) * ad)) + ae)) + a1)))) + 1)) then (if (wrap64 ((wrap64 (4 * (wrap64 ((wrap64 ((wrap64 ((wrap64 (af + a2)) * ad)) + ae)) + a1)))) + 1)) < (aa.size : Int) then (if 0 ≤ (wrap64 ((wrap64 (4 * (wrap64 ((wrap64 ((wrap64 ((wrap64 (af + a2)) * ad)) + ae)) + a1)))) + 2)) then (if (wrap64 ((wrap64 (4 * (wrap64 ((wrap64 ((wrap64 ((wrap64 (af + a2)) * ad)) + ae)) + a1)))) + 2)) < (aa.size : Int) then (if 0 ≤ (wrap64 ((wrap64 (4 * (wrap64 ((wrap64 ((wrap64 ((wrap64 (af + a2)) * ad)) + ae)) + a1)))) + 3)) then (if (wrap64 ((wrap64 (4 * (wrap64 ((wrap64 ((wrap64 ((wrap64 (af + a2)) * ad)) + ae)) + a1)))) + 3)) < (aa.size : Int) then (some (wrap64 (bt aa (wrap64 (4 * (wrap64 ((wrap64 ((wrap64 ((wrap64 (af + a2)) * ad)) + ae)) + a1))))), wrap64 (bt aa (wrap64 ((wrap64 (4 * (wrap64 ((wrap64 ((wrap64 ((wrap64 (af + a2)) * ad)) + ae)) + a1)))) + 1))), wrap64 (bt aa (wrap64 ((wrap64 (4 * (wrap64 ((wrap64 ((wrap64 ((wrap64 (af + a2)) * ad)) + ae)) + a1)))) + 2))), wrap64 (bt aa (wrap64 ((wrap64 (4 * (wrap64 ((wrap64 ((wrap64 ((wrap64 (af + a2)) * ad)) + ae)) + a1)))) + 3))))) else (none)) else (none)) else (none)) else (none)) else (none)) else (none)) else (none)) else (none)) = some (r1, r2, r3, r4) := h
 clear h
 obtain ⟨ag, ay⟩ : ∃ j_ : Int, (wrap64 (4 * (wrap64 ((wrap64 ((wrap64 ((wrap64 (af + a2)) * ad)) + ae)) + a1)))) = j_ := ⟨_, rfl⟩
 replace H : (if 0 ≤ (ag) then (if (ag) < (aa.size : Int) then (if 0 ≤ (wrap64 ((ag) + 1)) then (if (wrap64 ((ag) + 1)) < (aa.size : Int) then (if 0 ≤ (wrap64 ((ag) + 2)) then (if (wrap64 ((ag) + 2)) < (aa.size : Int) then (if 0 ≤ (wrap64 ((ag) + 3)) then (if (wrap64 ((ag) + 3)) < (aa.size : Int) then (some (wrap64 (bt aa (ag)), wrap64 (bt aa (wrap64 ((ag) + 1))), wrap64 (bt aa (wrap64 ((ag) + 2))), wrap64 (bt aa (wrap64 ((ag) + 3))))) else (none)) else (none)) else (none)) else (none)) else (none)) else (none)) else (none)) else (none)) = some (r1, r2, r3, r4) := by first | (rw [ay] at H; exact H) | (simp only [ay] at H ⊢; exact H)
 have hji4w : (IntKind.i64.wrap (4 * (wrap64 ((wrap64 ((wrap64 ((wrap64 (af + a2)) * ad)) + ae)) + a1)))) = ag := (i64_w _).trans ay
 by_cases c5 : 0 ≤ (ag)
 ·rw [if_pos c5] at H
  have bj : decide (0 ≤ (ag)) = true := decide_eq_true c5
  clear c5
  by_cases c6 : (ag) < (aa.size : Int)
  ·rw [if_pos c6] at H
   have bk : decide ((ag) < (aa.size : Int)) = true := decide_eq_true c6
   clear c6
   obtain ⟨an, az⟩ : ∃ j_ : Int, (wrap64 ((ag) + 1)) = j_ := ⟨_, rfl⟩
   replace H : (if 0 ≤ (an) then (if (an) < (aa.size : Int) then (if 0 ≤ (wrap64 ((ag) + 2)) then (if (wrap64 ((ag) + 2)) < (aa.size : Int) then (if 0 ≤ (wrap64 ((ag) + 3)) then (if (wrap64 ((ag) + 3)) < (aa.size : Int) then (some (wrap64 (bt aa (ag)), wrap64 (bt aa (an)), wrap64 (bt aa (wrap64 ((ag) + 2))), wrap64 (bt aa (wrap64 ((ag) + 3))))) else (none)) else (none)) else (none)) else (none)) else (none)) else (none)) = some (r1, r2, r3, r4) := by first | (rw [az] at H; exact H) | (simp only [az] at H ⊢; exact H)
   have hji8w : (IntKind.i64.wrap ((ag) + 1)) = an := (i64_w _).trans az
   by_cases c9 : 0 ≤ (an)
   ·rw [if_pos c9] at H
    have bl : decide (0 ≤ (an)) = true := decide_eq_true c9
    clear c9
    by_cases c10 : (an) < (aa.size : Int)
    ·rw [if_pos c10] at H
     have a4 : decide ((an) < (aa.size : Int)) = true := decide_eq_true c10
     clear c10
     obtain ⟨ak, au⟩ : ∃ j_ : Int, (wrap64 ((ag) + 2)) = j_ := ⟨_, rfl⟩
     replace H : (if 0 ≤ (ak) then (if (ak) < (aa.size : Int) then (if 0 ≤ (wrap64 ((ag) + 3)) then (if (wrap64 ((ag) + 3)) < (aa.size : Int) then (some (wrap64 (bt aa (ag)), wrap64 (bt aa (an)), wrap64 (bt aa (ak)), wrap64 (bt aa (wrap64 ((ag) + 3))))) else (none)) else (none)) else (none)) else (none)) = some (r1, r2, r3, r4) := by first | (rw [au] at H; exact H) | (simp only [au] at H ⊢; exact H)
     have hji12w : (IntKind.i64.wrap ((ag) + 2)) = ak := (i64_w _).trans au
     by_cases c13 : 0 ≤ (ak)
     ·rw [if_pos c13] at H
      have a5 : decide (0 ≤ (ak)) = true := decide_eq_true c13
      clear c13
      by_cases c14 : (ak) < (aa.size : Int)
      ·rw [if_pos c14] at H
       have a6 : decide ((ak) < (aa.size : Int)) = true := decide_eq_true c14
       clear c14
       obtain ⟨am, av⟩ : ∃ j_ : Int, (wrap64 ((ag) + 3)) = j_ := ⟨_, rfl⟩
       replace H : (if 0 ≤ (am) then (if (am) < (aa.size : Int) then (some (wrap64 (bt aa (ag)), wrap64 (bt aa (an)), wrap64 (bt aa (ak)), wrap64 (bt aa (am)))) else (none)) else (none)) = some (r1, r2, r3, r4) := by first | (rw [av] at H; exact H) | (simp only [av] at H ⊢; exact H)
       have hji16w : (IntKind.i64.wrap ((ag) + 3)) = am := (i64_w _).trans av
       by_cases c17 : 0 ≤ (am)
       ·rw [if_pos c17] at H
        have a7 : decide (0 ≤ (am)) = true := decide_eq_true c17
        clear c17
        by_cases c18 : (am) < (aa.size : Int)
        ·rw [if_pos c18] at H
         have a8 : decide ((am) < (aa.size : Int)) = true := decide_eq_true c18
         clear c18
         simp only [Option.some.injEq, Prod.mk.injEq] at H
         obtain ⟨rfl, rfl, rfl, rfl⟩ := H
         go_enter Tryd.func32, Tryd.ntmps32
         try go_wp2_with (first | ((with_reducible refine O_ (N := 3) rfl ?_); refine N_ ?hg (N := 3) ?hd (cs := #[.string aa, .int .i64 ad, .int .i64 ao, .int .i64 ae, .int .i64 af]) (t := 62) ?hr ?_; (case hd => rfl); (case hg => rfl); (case hr => first | (go_simp; done) | (go_simp; rfl)); intro ai hg bu hbox hb; have ap := A_.mk (E_ (by exact lB HB.out) hb); have aq := A_.mk (hbox); have ar := A_.mk ((by rw [hg]; exact (G_ (by exact lB HB.out)) : w.heap.size ≤ ai)); have aA := A_.mk ((by rw [hg]; exact (G_ (by exact lB HB.out)) : w.heap.size ≤ ai)); clear HB; have HB := ap; have ah := aq; have a9 := ar; have aw := aA; clear ap aq ar aA; clear hb hbox hg) | ((with_reducible refine O_ (N := 6) rfl ?_); refine N_ ?hg (N := 6) ?hd (cs := #[.int .i64 0, .int .i64 0, .int .i64 0, .int .i64 0]) (t := 32) ?hr ?_; (case hd => rfl); (case hg => rfl); (case hr => first | (go_simp; done) | (go_simp; rfl)); intro ac hg ax hbox hb; have ap := A_.mk (F_ (g := ai) (o := .cells #[.string aa, .int .i64 ad, .int .i64 ao, .int .i64 ae, .int .i64 af] 62 (0, 0)) (by refine kB ?_; exact ah.out) hb); have aq := A_.mk (E_ (by exact lB HB.out) hb); have ar := A_.mk (hbox); have aA := A_.mk ((by rw [hg]; exact (G_ (by exact lB HB.out)) : w.heap.size ≤ ac)); have aH := A_.mk ((by rw [hg]; exact (G_ (by exact lB HB.out)) : w.heap.size ≤ ac)); have aI := A_.mk ((by rw [hg]; exact Nat.ne_of_lt (M_ (g := ai) (o := .cells #[.string aa, .int .i64 ad, .int .i64 ao, .int .i64 ae, .int .i64 af] 62 (0, 0)) (by refine kB ?_; exact ah.out)) : ai ≠ ac)); have aJ := A_.mk ((by rw [hg]; exact Nat.ne_of_gt (M_ (g := ai) (o := .cells #[.string aa, .int .i64 ad, .int .i64 ao, .int .i64 ae, .int .i64 af] 62 (0, 0)) (by refine kB ?_; exact ah.out)) : ac ≠ ai)); clear ah; clear HB; have ah := ap; have HB := aq; have aj := ar; have ba := aA; have aG := aH; have ab := aI; have al := aJ; clear ap aq ar aA aH aI aJ; clear hb hbox hg; have bb := ab.out; have bc := al.out; have aK : ax.cell? ⟨ai, 0, none⟩ = some (.string aa) := (D_ ah.out 0).trans rfl; have aL : ax.cell? ⟨ai, 1, none⟩ = some (.int .i64 ad) := (D_ ah.out 1).trans rfl; have aM : ax.cell? ⟨ai, 2, none⟩ = some (.int .i64 ao) := (D_ ah.out 2).trans rfl; have aN : ax.cell? ⟨ai, 3, none⟩ = some (.int .i64 ae) := (D_ ah.out 3).trans rfl; have aO : ax.cell? ⟨ai, 4, none⟩ = some (.int .i64 af) := (D_ ah.out 4).trans rfl; have aP := B_ ah.out 0; have aQ := B_ ah.out 1; have aR := B_ ah.out 2; have aS := B_ ah.out 3; have aT := B_ ah.out 4))
         have ap := A_.mk (Y_ ah.out)
         have aq := A_.mk (Y_ aj.out)
         have ar := A_.mk (T_ HB.out)
         clear ah
         clear aj
         clear HB
         have ah := ap
         have aj := aq
         have HB := ar
         clear ap aq ar
         have p7 : 0 ≤ ((ag) : Int) := of_decide_eq_true (by first | (with_reducible assumption) | assumption)
         have q7 : (ag) < (aa.size : Int) := of_decide_eq_true (by first | (with_reducible assumption) | assumption)
         have bv := bt_at aa (ag)
         replace p7 := eq_true p7
         replace q7 := eq_true q7
         have p11 : 0 ≤ ((an) : Int) := of_decide_eq_true (by first | (with_reducible assumption) | assumption)
         have q11 : (an) < (aa.size : Int) := of_decide_eq_true (by first | (with_reducible assumption) | assumption)
         have bm := bt_at aa (an)
         replace p11 := eq_true p11
         replace q11 := eq_true q11
         have p15 : 0 ≤ ((ak) : Int) := of_decide_eq_true (by first | (with_reducible assumption) | assumption)
         have q15 : (ak) < (aa.size : Int) := of_decide_eq_true (by first | (with_reducible assumption) | assumption)
         have bn := bt_at aa (ak)
         replace p15 := eq_true p15
         replace q15 := eq_true q15
         have p19 : 0 ≤ ((am) : Int) := of_decide_eq_true (by first | (with_reducible assumption) | assumption)
         have q19 : (am) < (aa.size : Int) := of_decide_eq_true (by first | (with_reducible assumption) | assumption)
         have bo := bt_at aa (am)
         replace p19 := eq_true p19
         replace q19 := eq_true q19
         refine start_ (n := 25) (S := fun w' => w'.cell? ⟨ai, 0, none⟩ = some (.string aa) ∧ w'.cell? ⟨ai, 1, none⟩ = some (.int .i64 ad) ∧ w'.cell? ⟨ai, 2, none⟩ = some (.int .i64 ao) ∧ w'.cell? ⟨ai, 3, none⟩ = some (.int .i64 ae) ∧ w'.cell? ⟨ai, 4, none⟩ = some (.int .i64 af)) (ds := []) #[false, false, false, false, false, false, false, false, false, false, false, false, false, false, false, false, false, false, false, false, false, false, false, false, false] (by kernel_rfl) rfl rfl ⟨(D_ ah.out 0).trans rfl, (D_ ah.out 1).trans rfl, (D_ ah.out 2).trans rfl, (D_ ah.out 3).trans rfl, (D_ ah.out 4).trans rfl⟩ (fun hHeld => ?_); refine with_tabW sample_sampler_texel.tab2 sample_sampler_texel.bits2 (fun HT_ HW_ => ?_)
         generalize ax.drew = aF at ah aj HB hHeld ⊢
         refine pure_ (i := 0) (N := some 23) (v := ?_) (a' := ?_) #[true, false, false, false, false, false, false, false, false, false, false, false, false, false, false, false, false, false, false, false, false, false, false, false, false] rfl rfl (A1_ HT_.out (by kernel_rfl)) (fun _ _ _ h => h) (Or.inl ⟨by rfl, ?_⟩) ?_ ?_
         rotate_left
         ·intro w'
          go_simp
          with_reducible rfl
         rotate_left
         ·exact pA
         refine pure_ (i := 2) (N := some 25) (v := ?_) (a' := ?_) #[true, false, true, false, false, false, false, false, false, false, false, false, false, false, false, false, false, false, false, false, false, false, false, false, false] rfl rfl (A1_ HT_.out (by kernel_rfl)) (fun _ _ _ h => h) (Or.inl ⟨by rfl, ?_⟩) ?_ ?_
         rotate_left
         ·intro w'
          go_simp
          with_reducible rfl
         rotate_left
         ·exact pA
         refine pure_ (i := 5) (N := some 28) (v := ?_) (a' := ?_) #[true, false, true, false, false, true, false, false, false, false, false, false, false, false, false, false, false, false, false, false, false, false, false, false, false] rfl rfl (A1_ HT_.out (by kernel_rfl)) (fun _ _ _ h => h) (Or.inl ⟨by rfl, ?_⟩) ?_ ?_
         rotate_left
         ·intro w'
          go_simp
          with_reducible rfl
         rotate_left
         ·exact pA
         refine pure_ (i := 7) (N := some 30) (v := ?_) (a' := ?_) #[true, false, true, false, false, true, false, true, false, false, false, false, false, false, false, false, false, false, false, false, false, false, false, false, false] rfl rfl (A1_ HT_.out (by kernel_rfl)) (fun _ _ _ h => h) (Or.inl ⟨by rfl, ?_⟩) ?_ ?_
         rotate_left
         ·intro w'
          go_simp
          with_reducible rfl
         rotate_left
         ·exact pA
         refine pure_ (i := 8) (N := some 31) (v := ?_) (a' := ?_) #[true, false, true, false, false, true, false, true, true, false, false, false, false, false, false, false, false, false, false, false, false, false, false, false, false] rfl rfl (A1_ HT_.out (by kernel_rfl)) (fun _ _ _ h => h) (Or.inl ⟨by rfl, ?_⟩) ?_ ?_
         rotate_left
         ·intro w'
          go_simp
          with_reducible rfl
         rotate_left
         ·exact pA
         refine pure_ (i := 11) (N := some 34) (v := ?_) (a' := ?_) #[true, false, true, false, false, true, false, true, true, false, false, true, false, false, false, false, false, false, false, false, false, false, false, false, false] rfl rfl (A1_ HT_.out (by kernel_rfl)) (fun _ _ _ h => h) (Or.inl ⟨by rfl, ?_⟩) ?_ ?_
         rotate_left
         ·intro w'
          go_simp
          with_reducible rfl
         rotate_left
         ·exact pA
         refine pure_ (i := 13) (N := some 36) (v := ?_) (a' := ?_) #[true, false, true, false, false, true, false, true, true, false, false, true, false, true, false, false, false, false, false, false, false, false, false, false, false] rfl rfl (A1_ HT_.out (by kernel_rfl)) (fun _ _ _ h => h) (Or.inl ⟨by rfl, ?_⟩) ?_ ?_
         rotate_left
         ·intro w'
          go_simp
          with_reducible rfl
         rotate_left
         ·exact pA
         refine pure_ (i := 14) (N := some 37) (v := ?_) (a' := ?_) #[true, false, true, false, false, true, false, true, true, false, false, true, false, true, true, false, false, false, false, false, false, false, false, false, false] rfl rfl (A1_ HT_.out (by kernel_rfl)) (fun _ _ _ h => h) (Or.inl ⟨by rfl, ?_⟩) ?_ ?_
         rotate_left
         ·intro w'
          go_simp
          with_reducible rfl
         rotate_left
         ·exact pA
         refine pure_ (i := 17) (N := some 40) (v := ?_) (a' := ?_) #[true, false, true, false, false, true, false, true, true, false, false, true, false, true, true, false, false, true, false, false, false, false, false, false, false] rfl rfl (A1_ HT_.out (by kernel_rfl)) (fun _ _ _ h => h) (Or.inl ⟨by rfl, ?_⟩) ?_ ?_
         rotate_left
         ·intro w'
          go_simp
          with_reducible rfl
         rotate_left
         ·exact pA
         refine pure_ (i := 19) (N := some 42) (v := ?_) (a' := ?_) #[true, false, true, false, false, true, false, true, true, false, false, true, false, true, true, false, false, true, false, true, false, false, false, false, false] rfl rfl (A1_ HT_.out (by kernel_rfl)) (fun _ _ _ h => h) (Or.inl ⟨by rfl, ?_⟩) ?_ ?_
         rotate_left
         ·intro w'
          go_simp
          with_reducible rfl
         rotate_left
         ·exact pA
         refine pure_ (i := 20) (N := some 43) (v := ?_) (a' := ?_) #[true, false, true, false, false, true, false, true, true, false, false, true, false, true, true, false, false, true, false, true, true, false, false, false, false] rfl rfl (A1_ HT_.out (by kernel_rfl)) (fun _ _ _ h => h) (Or.inl ⟨by rfl, ?_⟩) ?_ ?_
         rotate_left
         ·intro w'
          go_simp
          with_reducible rfl
         rotate_left
         ·exact pA
         refine take_ (i := 1) (N := some 24) (v := ?_) (a' := ?_) #[true, true, true, false, false, true, false, true, true, false, false, true, false, true, true, false, false, true, false, true, true, false, false, false, false] rfl rfl (B1_ HT_.out HW_.out (by kernel_rfl)) (fun _ _ _ h => h) (Or.inl ⟨by rfl, ?_⟩) hHeld ?_ ?_
         rotate_left
         ·rintro w' ⟨s0, s1, s2, s3, s4⟩
          go_simp
          with_reducible rfl
         rotate_left
         ·exact pA
         refine take_ (i := 3) (N := some 26) (v := ?_) (a' := ?_) #[true, true, true, true, false, true, false, true, true, false, false, true, false, true, true, false, false, true, false, true, true, false, false, false, false] rfl rfl (B1_ HT_.out HW_.out (by kernel_rfl)) (fun _ _ _ h => h) (Or.inl ⟨by rfl, ?_⟩) hHeld ?_ ?_
         rotate_left
         ·rintro w' ⟨s0, s1, s2, s3, s4⟩
          go_simp
          with_reducible rfl
         rotate_left
         ·exact pA
         refine pure_ (i := 4) (N := some 27) (v := ?_) (a' := ?_) #[true, true, true, true, true, true, false, true, true, false, false, true, false, true, true, false, false, true, false, true, true, false, false, false, false] rfl rfl (A1_ HT_.out (by kernel_rfl)) (fun _ _ _ h => h) (Or.inl ⟨by rfl, ?_⟩) ?_ ?_
         rotate_left
         ·intro w'
          go_simp
          with_reducible rfl
         rotate_left
         ·exact pA
         refine take_ (i := 6) (N := some 29) (v := ?_) (a' := ?_) #[true, true, true, true, true, true, true, true, true, false, false, true, false, true, true, false, false, true, false, true, true, false, false, false, false] rfl rfl (B1_ HT_.out HW_.out (by kernel_rfl)) (fun _ _ _ h => h) (Or.inl ⟨by rfl, ?_⟩) hHeld ?_ ?_
         rotate_left
         ·rintro w' ⟨s0, s1, s2, s3, s4⟩
          go_simp
          with_reducible rfl
         rotate_left
         ·exact pA
         refine take_ (i := 9) (N := some 32) (v := ?_) (a' := ?_) #[true, true, true, true, true, true, true, true, true, true, false, true, false, true, true, false, false, true, false, true, true, false, false, false, false] rfl rfl (B1_ HT_.out HW_.out (by kernel_rfl)) (fun _ _ _ h => h) (Or.inl ⟨by rfl, ?_⟩) hHeld ?_ ?_
         rotate_left
         ·rintro w' ⟨s0, s1, s2, s3, s4⟩
          go_simp
          with_reducible rfl
         rotate_left
         ·exact pA
         refine pure_ (i := 10) (N := some 33) (v := ?_) (a' := ?_) #[true, true, true, true, true, true, true, true, true, true, true, true, false, true, true, false, false, true, false, true, true, false, false, false, false] rfl rfl (A1_ HT_.out (by kernel_rfl)) (fun _ _ _ h => h) (Or.inl ⟨by rfl, ?_⟩) ?_ ?_
         rotate_left
         ·intro w'
          go_simp
          with_reducible rfl
         rotate_left
         ·exact pA
         refine take_ (i := 12) (N := some 35) (v := ?_) (a' := ?_) #[true, true, true, true, true, true, true, true, true, true, true, true, true, true, true, false, false, true, false, true, true, false, false, false, false] rfl rfl (B1_ HT_.out HW_.out (by kernel_rfl)) (fun _ _ _ h => h) (Or.inl ⟨by rfl, ?_⟩) hHeld ?_ ?_
         rotate_left
         ·rintro w' ⟨s0, s1, s2, s3, s4⟩
          go_simp
          with_reducible rfl
         rotate_left
         ·exact pA
         refine take_ (i := 15) (N := some 38) (v := ?_) (a' := ?_) #[true, true, true, true, true, true, true, true, true, true, true, true, true, true, true, true, false, true, false, true, true, false, false, false, false] rfl rfl (B1_ HT_.out HW_.out (by kernel_rfl)) (fun _ _ _ h => h) (Or.inl ⟨by rfl, ?_⟩) hHeld ?_ ?_
         rotate_left
         ·rintro w' ⟨s0, s1, s2, s3, s4⟩
          go_simp
          with_reducible rfl
         rotate_left
         ·exact pA
         refine pure_ (i := 16) (N := some 39) (v := ?_) (a' := ?_) #[true, true, true, true, true, true, true, true, true, true, true, true, true, true, true, true, true, true, false, true, true, false, false, false, false] rfl rfl (A1_ HT_.out (by kernel_rfl)) (fun _ _ _ h => h) (Or.inl ⟨by rfl, ?_⟩) ?_ ?_
         rotate_left
         ·intro w'
          go_simp
          with_reducible rfl
         rotate_left
         ·exact pA
         refine take_ (i := 18) (N := some 41) (v := ?_) (a' := ?_) #[true, true, true, true, true, true, true, true, true, true, true, true, true, true, true, true, true, true, true, true, true, false, false, false, false] rfl rfl (B1_ HT_.out HW_.out (by kernel_rfl)) (fun _ _ _ h => h) (Or.inl ⟨by rfl, ?_⟩) hHeld ?_ ?_
         rotate_left
         ·rintro w' ⟨s0, s1, s2, s3, s4⟩
          go_simp
          with_reducible rfl
         rotate_left
         ·exact pA
         refine take_ (i := 21) (N := some 44) (v := ?_) (a' := ?_) #[true, true, true, true, true, true, true, true, true, true, true, true, true, true, true, true, true, true, true, true, true, true, false, false, false] rfl rfl (B1_ HT_.out HW_.out (by kernel_rfl)) (fun _ _ _ h => h) (Or.inl ⟨by rfl, ?_⟩) hHeld ?_ ?_
         rotate_left
         ·rintro w' ⟨s0, s1, s2, s3, s4⟩
          go_simp
          with_reducible rfl
         rotate_left
         ·exact pA
         refine pure_ (i := 22) (N := some 45) (v := ?_) (a' := ?_) #[true, true, true, true, true, true, true, true, true, true, true, true, true, true, true, true, true, true, true, true, true, true, true, false, false] rfl rfl (A1_ HT_.out (by kernel_rfl)) (fun _ _ _ h => h) (Or.inl ⟨by rfl, ?_⟩) ?_ ?_
         rotate_left
         ·intro w'
          go_simp
          with_reducible rfl
         rotate_left
         ·exact pA
         refine pure_ (i := 23) (N := some 46) (v := ?_) (a' := ?_) #[true, true, true, true, true, true, true, true, true, true, true, true, true, true, true, true, true, true, true, true, true, true, true, true, false] rfl rfl (A1_ HT_.out (by kernel_rfl)) (fun _ _ _ h => h) (Or.inl ⟨by rfl, ?_⟩) ?_ ?_
         rotate_left
         ·intro w'
          go_simp
          with_reducible rfl
         rotate_left
         ·exact pA
         refine one_ (i := 24) (N := none) #[true, true, true, true, true, true, true, true, true, true, true, true, true, true, true, true, true, true, true, true, true, true, true, true, true] rfl rfl (one_of HT_.out (by kernel_rfl)) (by decide) (fun K hK => ?_)
         have bp : aF.cell? ⟨ac, 0, none⟩ = some (.int .i64 0) := (D_ aj.out 0).trans rfl
         have bd := B_ aj.out 0
         have aU := ab.out
         have aV := al.out
         have bq : aF.cell? ⟨ac, 1, none⟩ = some (.int .i64 0) := (D_ aj.out 1).trans rfl
         have be := B_ aj.out 1
         have aW := ab.out
         have aX := al.out
         have br : aF.cell? ⟨ac, 2, none⟩ = some (.int .i64 0) := (D_ aj.out 2).trans rfl
         have bf := B_ aj.out 2
         have aY := ab.out
         have aZ := al.out
         have bs : aF.cell? ⟨ac, 3, none⟩ = some (.int .i64 0) := (D_ aj.out 3).trans rfl
         have bg := B_ aj.out 3
         have a0 := ab.out
         have a3 := al.out
         refine skip_ (w1 := ?_) (by rfl) rfl ?_ ?_
         rotate_left
         ·go_simp
          rfl
         refine hK.out _ _ ⟨((I_ (p := ⟨ac, _, none⟩) ab.out _).trans (((I_ (p := ⟨ac, _, none⟩) ab.out _).trans (((I_ (p := ⟨ac, _, none⟩) ab.out _).trans (((I_ (p := ⟨ac, _, none⟩) ab.out _).trans (hHeld.1)))))))), ((I_ (p := ⟨ac, _, none⟩) ab.out _).trans (((I_ (p := ⟨ac, _, none⟩) ab.out _).trans (((I_ (p := ⟨ac, _, none⟩) ab.out _).trans (((I_ (p := ⟨ac, _, none⟩) ab.out _).trans (hHeld.2.1)))))))), ((I_ (p := ⟨ac, _, none⟩) ab.out _).trans (((I_ (p := ⟨ac, _, none⟩) ab.out _).trans (((I_ (p := ⟨ac, _, none⟩) ab.out _).trans (((I_ (p := ⟨ac, _, none⟩) ab.out _).trans (hHeld.2.2.1)))))))), ((I_ (p := ⟨ac, _, none⟩) ab.out _).trans (((I_ (p := ⟨ac, _, none⟩) ab.out _).trans (((I_ (p := ⟨ac, _, none⟩) ab.out _).trans (((I_ (p := ⟨ac, _, none⟩) ab.out _).trans (hHeld.2.2.2.1)))))))), ((I_ (p := ⟨ac, _, none⟩) ab.out _).trans (((I_ (p := ⟨ac, _, none⟩) ab.out _).trans (((I_ (p := ⟨ac, _, none⟩) ab.out _).trans (((I_ (p := ⟨ac, _, none⟩) ab.out _).trans (hHeld.2.2.2.2))))))))⟩ (fun hHeld => ?_)
         clear hK K
         refine done_ (done_of HT_.out (by kernel_rfl)) ?_
         try go_wp2
         refine bodyPost_ret (results_cell_row rfl _ _ ac 32 #[.int .i64 (wrap64 (bt aa (ag))), .int .i64 (wrap64 (bt aa (an))), .int .i64 (wrap64 (bt aa (ak))), .int .i64 (wrap64 (bt aa (am)))] (0, 0) _ rfl (by refine kB ?_; refine L_ (cs := #[.int .i64 (wrap64 (bt aa (ag))), .int .i64 (wrap64 (bt aa (an))), .int .i64 (wrap64 (bt aa (ak))), .int .i64 0]) ?_ 3 _ rfl; refine kB ?_; refine L_ (cs := #[.int .i64 (wrap64 (bt aa (ag))), .int .i64 (wrap64 (bt aa (an))), .int .i64 0, .int .i64 0]) ?_ 2 _ rfl; refine kB ?_; refine L_ (cs := #[.int .i64 (wrap64 (bt aa (ag))), .int .i64 0, .int .i64 0, .int .i64 0]) ?_ 1 _ rfl; refine kB ?_; refine L_ (cs := #[.int .i64 0, .int .i64 0, .int .i64 0, .int .i64 0]) ?_ 0 _ rfl; refine kB ?_; exact aj.out) Tryd.underlying32 rfl (by kernel_rfl)) rfl ?_
         exact ⟨by first | rfl | (simp [errW_none, errW_some] <;> rfl) | (simp only [← ay, ← az, ← au, ← av]; first | rfl | (simp [errW_none, errW_some] <;> rfl)) | (simp [*, errW_none, errW_some] <;> rfl), by exact lB HB.out⟩
        ·rw [if_neg c18] at H
         exact absurd H (by simp)
       ·rw [if_neg c17] at H
        exact absurd H (by simp)
      ·rw [if_neg c14] at H
       exact absurd H (by simp)
     ·rw [if_neg c13] at H
      exact absurd H (by simp)
    ·rw [if_neg c10] at H
     exact absurd H (by simp)
   ·rw [if_neg c9] at H
    exact absurd H (by simp)
  ·rw [if_neg c6] at H
   exact absurd H (by simp)
 ·rw [if_neg c5] at H
  exact absurd H (by simp)

end Go.Proofs.YtjcgmjhcaaaieaaDoor.Pr
