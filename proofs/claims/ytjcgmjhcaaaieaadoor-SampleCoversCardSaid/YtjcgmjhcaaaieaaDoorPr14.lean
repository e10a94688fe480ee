-- printed by a program of this session's (wip/mp.sh), out of the translation; the texts of its folder 'given' are typed by hand
import Derived.Test.YtjcgmjhcaaaieaaDoorPr0
import Derived.Test.YtjcgmjhcaaaieaaDoorPr9
import Derived.Test.YtjcgmjhcaaaieaaDoorPr10
import Derived.Test.YtjcgmjhcaaaieaaDoorPr11
import Derived.Test.YtjcgmjhcaaaieaaDoorPr13
namespace Go.Proofs.YtjcgmjhcaaaieaaDoor.Pr
open Go.RowKit Go.Proofs.YtjcgmjhcaaaieaaDoorW.PrintWords Go.Proofs.YtjcgmjhcaaaieaaDoorW.PrintLast Go.Proofs.YtjcgmjhcaaaieaaDoorW.PrintMore
attribute [local go_sem] max2_int min2_int max_two min_two max_three min_three max_four min_four   -- for this text's walks alone
attribute [local go_sem high] eqA32
set_option linter.unusedVariables false
set_option linter.unusedSimpArgs false

/-! ### sample_At: function 8 -/
mutual
def sample_At.j0 : Nat → Int → Int → Int → Bool → Int → Int → Int → Int → Int → Int → Int → Int → List (S54) → List (S84) → List ByteArray → Option (Int × Int × Int × Int × Int)
  | 0, _, _, _, _, _, _, _, _, _, _, _, _, _, _, _ => none
  | k + 1, x1, x2, x3, x30, x155000, x155001, x155002, x155003, x155004, x155005, x155006, x155007, x155008, x155009, x155010 => if x30 = true then (some (0, 0, 0, 0, 1)) else (if 0 ≤ x1 then (if x1 < (x155008.length : Int) then (if ((rd_T54 x155008 x1).f1.f2) = 0 then (sample_At.j1 k x2 x3 true x155000 x155001 x155002 x155003 x155004 x155005 x155006 x155007 x155008 x155009 x155010 ((rd_T54 x155008 x1).f0) ((rd_T54 x155008 x1).f1.f0) ((rd_T54 x155008 x1).f1.f1) ((rd_T54 x155008 x1).f1.f2) ((rd_T54 x155008 x1).f1.f3) ((rd_T54 x155008 x1).f2.f0) ((rd_T54 x155008 x1).f2.f1) ((rd_T54 x155008 x1).f2.f2)) else (if x2 < 0 then (sample_At.j1 k x2 x3 true x155000 x155001 x155002 x155003 x155004 x155005 x155006 x155007 x155008 x155009 x155010 ((rd_T54 x155008 x1).f0) ((rd_T54 x155008 x1).f1.f0) ((rd_T54 x155008 x1).f1.f1) ((rd_T54 x155008 x1).f1.f2) ((rd_T54 x155008 x1).f1.f3) ((rd_T54 x155008 x1).f2.f0) ((rd_T54 x155008 x1).f2.f1) ((rd_T54 x155008 x1).f2.f2)) else (if x2 > (wrap64 (256 * (wrap64 (((rd_T54 x155008 x1).f1.f2) - 1)))) then (sample_At.j1 k x2 x3 true x155000 x155001 x155002 x155003 x155004 x155005 x155006 x155007 x155008 x155009 x155010 ((rd_T54 x155008 x1).f0) ((rd_T54 x155008 x1).f1.f0) ((rd_T54 x155008 x1).f1.f1) ((rd_T54 x155008 x1).f1.f2) ((rd_T54 x155008 x1).f1.f3) ((rd_T54 x155008 x1).f2.f0) ((rd_T54 x155008 x1).f2.f1) ((rd_T54 x155008 x1).f2.f2)) else (if x3 < 0 then (sample_At.j1 k x2 x3 true x155000 x155001 x155002 x155003 x155004 x155005 x155006 x155007 x155008 x155009 x155010 ((rd_T54 x155008 x1).f0) ((rd_T54 x155008 x1).f1.f0) ((rd_T54 x155008 x1).f1.f1) ((rd_T54 x155008 x1).f1.f2) ((rd_T54 x155008 x1).f1.f3) ((rd_T54 x155008 x1).f2.f0) ((rd_T54 x155008 x1).f2.f1) ((rd_T54 x155008 x1).f2.f2)) else (sample_At.j1 k x2 x3 (decide (x3 > (wrap64 (256 * (wrap64 (((rd_T54 x155008 x1).f1.f3) - 1)))))) x155000 x155001 x155002 x155003 x155004 x155005 x155006 x155007 x155008 x155009 x155010 ((rd_T54 x155008 x1).f0) ((rd_T54 x155008 x1).f1.f0) ((rd_T54 x155008 x1).f1.f1) ((rd_T54 x155008 x1).f1.f2) ((rd_T54 x155008 x1).f1.f3) ((rd_T54 x155008 x1).f2.f0) ((rd_T54 x155008 x1).f2.f1) ((rd_T54 x155008 x1).f2.f2)))))) else (none)) else (none))
def sample_At.j1 : Nat → Int → Int → Bool → Int → Int → Int → Int → Int → Int → Int → Int → List (S54) → List (S84) → List ByteArray → Int → Int → Int → Int → Int → Int → Int → Int → Option (Int × Int × Int × Int × Int)
  | 0, _, _, _, _, _, _, _, _, _, _, _, _, _, _, _, _, _, _, _, _, _, _ => none
  | k + 1, x2, x3, x66, x155000, x155001, x155002, x155003, x155004, x155005, x155006, x155007, x155008, x155009, x155010, x159000, x159001, x159002, x159003, x159004, x159005, x159006, x159007 => if x66 = true then (some (0, 0, 0, 0, 7)) else (if 0 ≤ x159005 then (if x159005 < (x155010.length : Int) then ((sample_part.f x2 x159003).bind fun bt161 => ((sample_part.f x3 x159004).bind fun bt163 => ((sample_sampler_row.f (rdOf ByteArray.empty x155010 x159005) x155006 x159005 x159006 x159007 bt161.1 bt163.1 bt161.2).bind fun bt165 => (if bt163.2 = 0 then ((sample_mixed.f bt165.1 bt165.2.1 bt165.2.2.1 bt165.2.2.2 bt165.1 bt165.2.1 bt165.2.2.1 bt165.2.2.2 0).bind fun bt170 => (some (bt170.1, bt170.2.1, bt170.2.2.1, bt170.2.2.2, 0))) else ((sample_sampler_row.f (rdOf ByteArray.empty x155010 x159005) x155006 x159005 x159006 x159007 bt161.1 (wrap64 (bt163.1 + 1)) bt161.2).bind fun bt174 => ((sample_mixed.f bt165.1 bt165.2.1 bt165.2.2.1 bt165.2.2.2 bt174.1 bt174.2.1 bt174.2.2.1 bt174.2.2.2 bt163.2).bind fun bt178 => (some (bt178.1, bt178.2.1, bt178.2.2.1, bt178.2.2.2, 0)))))))) else (none)) else (none))
end
def sample_At.f (k : Nat) (a0_0 : Int) (a0_1 : Int) (a0_2 : Int) (a0_3 : Int) (a0_4 : Int) (a0_5 : Int) (a0_6 : Int) (a0_7 : Int) (l0_8 : List (S54)) (l0_9 : List (S84)) (l0_10 : List ByteArray) (a1 : Int) (a2 : Int) (a3 : Int) : Option (Int × Int × Int × Int × Int) := (atlas_May.f k a0_0 a0_1 a0_2 a0_3 a0_4 a0_5 a0_6 a0_7 l0_8 l0_9 l0_10).bind fun t156 => (if t156 = true then (if a1 < 0 then (sample_At.j0 k a1 a2 a3 true a0_0 a0_1 a0_2 a0_3 a0_4 a0_5 a0_6 a0_7 l0_8 l0_9 l0_10) else (sample_At.j0 k a1 a2 a3 (decide (a1 ≥ (l0_8.length : Int))) a0_0 a0_1 a0_2 a0_3 a0_4 a0_5 a0_6 a0_7 l0_8 l0_9 l0_10)) else (sample_At.j0 k a1 a2 a3 true a0_0 a0_1 a0_2 a0_3 a0_4 a0_5 a0_6 a0_7 l0_8 l0_9 l0_10))
theorem sample_At.mono_l : ∀ k, (∀ y0 y1 y2 y3 y4 y5 y6 y7 y8 y9 y10 y11 y12 y13 y14, LeO (sample_At.j0 k y0 y1 y2 y3 y4 y5 y6 y7 y8 y9 y10 y11 y12 y13 y14) (sample_At.j0 (k + 1) y0 y1 y2 y3 y4 y5 y6 y7 y8 y9 y10 y11 y12 y13 y14)) ∧ (∀ y0 y1 y2 y3 y4 y5 y6 y7 y8 y9 y10 y11 y12 y13 y14 y15 y16 y17 y18 y19 y20 y21, LeO (sample_At.j1 k y0 y1 y2 y3 y4 y5 y6 y7 y8 y9 y10 y11 y12 y13 y14 y15 y16 y17 y18 y19 y20 y21) (sample_At.j1 (k + 1) y0 y1 y2 y3 y4 y5 y6 y7 y8 y9 y10 y11 y12 y13 y14 y15 y16 y17 y18 y19 y20 y21))
  | 0 => ⟨fun _ _ _ _ _ _ _ _ _ _ _ _ _ _ _ r h => by simp [sample_At.j0] at h, fun _ _ _ _ _ _ _ _ _ _ _ _ _ _ _ _ _ _ _ _ _ _ r h => by simp [sample_At.j1] at h⟩
  | k + 1 => by
    obtain ⟨ih0, ih1⟩ := sample_At.mono_l k
    refine ⟨?_, ?_⟩
    · intro y0 y1 y2 y3 y4 y5 y6 y7 y8 y9 y10 y11 y12 y13 y14
      unfold sample_At.j0
      repeat' first
      | (with_reducible exact ih0 _ _ _ _ _ _ _ _ _ _ _ _ _ _ _)
      | (with_reducible exact ih1 _ _ _ _ _ _ _ _ _ _ _ _ _ _ _ _ _ _ _ _ _ _)
      | (with_reducible exact atlas_May.mono _ _ _ _ _ _ _ _ _ _ _ _)
      | (with_reducible exact LeO.refl _)
      | (with_reducible exact LeO.none _)
      | (with_reducible refine LeO.ite ?_ ?_)
      | (with_reducible refine LeO.bind ?_ (fun _ => ?_))
      | exact ih0 _ _ _ _ _ _ _ _ _ _ _ _ _ _ _
      | exact ih1 _ _ _ _ _ _ _ _ _ _ _ _ _ _ _ _ _ _ _ _ _ _
      | exact atlas_May.mono _ _ _ _ _ _ _ _ _ _ _ _
      | exact LeO.none _
      | refine LeO.ite ?_ ?_
      | refine LeO.bind ?_ (fun _ => ?_)
    · intro y0 y1 y2 y3 y4 y5 y6 y7 y8 y9 y10 y11 y12 y13 y14 y15 y16 y17 y18 y19 y20 y21
      unfold sample_At.j1
      repeat' first
      | (with_reducible exact ih0 _ _ _ _ _ _ _ _ _ _ _ _ _ _ _)
      | (with_reducible exact ih1 _ _ _ _ _ _ _ _ _ _ _ _ _ _ _ _ _ _ _ _ _ _)
      | (with_reducible exact atlas_May.mono _ _ _ _ _ _ _ _ _ _ _ _)
      | (with_reducible exact LeO.refl _)
      | (with_reducible exact LeO.none _)
      | (with_reducible refine LeO.ite ?_ ?_)
      | (with_reducible refine LeO.bind ?_ (fun _ => ?_))
      | exact ih0 _ _ _ _ _ _ _ _ _ _ _ _ _ _ _
      | exact ih1 _ _ _ _ _ _ _ _ _ _ _ _ _ _ _ _ _ _ _ _ _ _
      | exact atlas_May.mono _ _ _ _ _ _ _ _ _ _ _ _
      | exact LeO.none _
      | refine LeO.ite ?_ ?_
      | refine LeO.bind ?_ (fun _ => ?_)
theorem sample_At.mono : ∀ a0 a1 a2 a3 a4 a5 a6 a7 a8 a9 a10 a11 a12 a13 k, LeO (sample_At.f k a0 a1 a2 a3 a4 a5 a6 a7 a8 a9 a10 a11 a12 a13) (sample_At.f (k + 1) a0 a1 a2 a3 a4 a5 a6 a7 a8 a9 a10 a11 a12 a13) := by
  intro a0 a1 a2 a3 a4 a5 a6 a7 a8 a9 a10 a11 a12 a13 k
  obtain ⟨ih0, ih1⟩ := sample_At.mono_l k
  unfold sample_At.f
  repeat' first
      | (with_reducible exact ih0 _ _ _ _ _ _ _ _ _ _ _ _ _ _ _)
      | (with_reducible exact ih1 _ _ _ _ _ _ _ _ _ _ _ _ _ _ _ _ _ _ _ _ _ _)
      | (with_reducible exact atlas_May.mono _ _ _ _ _ _ _ _ _ _ _ _)
      | (with_reducible exact LeO.refl _)
      | (with_reducible exact LeO.none _)
      | (with_reducible refine LeO.ite ?_ ?_)
      | (with_reducible refine LeO.bind ?_ (fun _ => ?_))
      | exact ih0 _ _ _ _ _ _ _ _ _ _ _ _ _ _ _
      | exact ih1 _ _ _ _ _ _ _ _ _ _ _ _ _ _ _ _ _ _ _ _ _ _
      | exact atlas_May.mono _ _ _ _ _ _ _ _ _ _ _ _
      | exact LeO.none _
      | refine LeO.ite ?_ ?_
      | refine LeO.bind ?_ (fun _ => ?_)
def sample_At.T6 : Bool × List (List Nat × List Nat) := (true, [([], []), ([0], [0]), ([], []), ([2], [2]), ([3], [3]), ([1, 4], [1, 4]), ([5], [5]), ([], []), ([7], [7]), ([8], [8]), ([], []), ([10], [10]), ([6, 9, 11], [6, 9, 11]), ([], []), ([13, 12, 0, 1, 2, 3, 4, 5, 6, 7, 8, 9, 10, 11, 12, 13], [12, 13])])
def sample_At.B6 : List Nat := [0, 1, 0, 4, 12, 31, 63, 0, 128, 384, 0, 1024, 4095, 0, 16383]
theorem sample_At.tab6 : rtab .any (opsOf Tryd.f8 6) = sample_At.T6 := by kernel_rfl
theorem sample_At.bits6 : waitsOk sample_At.T6.2 sample_At.B6 = true := by kernel_rfl
def sample_At.T12 : Bool × List (List Nat × List Nat) := (true, [([], []), ([], []), ([], []), ([], []), ([3], [3]), ([], []), ([1, 2, 4, 5], [1, 2, 4, 5]), ([], []), ([0, 6, 7, 6], [0, 6, 7]), ([8, 8, 0, 1, 2, 3, 4, 5, 6, 7, 8], [8]), ([9, 0, 1, 2, 3, 4, 5, 6, 7, 8, 9], [])])
def sample_At.B12 : List Nat := [0, 0, 0, 0, 8, 0, 62, 0, 255, 511, 1023]
theorem sample_At.tab12 : rtab .any (opsOf Tryd.f8 12) = sample_At.T12 := by kernel_rfl
theorem sample_At.bits12 : waitsOk sample_At.T12.2 sample_At.B12 = true := by kernel_rfl
set_option maxHeartbeats 8000000 in
set_option maxRecDepth 100000 in
theorem sample_At.calls (k : Nat) (a0_0 : Int) (a0_1 : Int) (a0_2 : Int) (a0_3 : Int) (a0_4 : Int) (a0_5 : Int) (a0_6 : Int) (a0_7 : Int) (A0_8 : Option Addr) (c0_8 : Nat) (l0_8 : List (S54)) (A0_9 : Option Addr) (c0_9 : Nat) (l0_9 : List (S84)) (A0_10 : Option Addr) (c0_10 : Nat) (l0_10 : List ByteArray) (a1 : Int) (a2 : Int) (a3 : Int) (r1 : Int) (r2 : Int) (r3 : Int) (r4 : Int) (r5 : Int) (w : World) (hr0_8 : Kd.C k54 w A0_8 l0_8.length l0_8) (hc0_8 : l0_8.length ≤ c0_8) (hr0_9 : Kd.C k84 w A0_9 l0_9.length l0_9) (hc0_9 : l0_9.length ≤ c0_9) (hr0_10 : Kd.C Kd.string w A0_10 l0_10.length l0_10) (hc0_10 : l0_10.length ≤ c0_10) (h : sample_At.f k a0_0 a0_1 a0_2 a0_3 a0_4 a0_5 a0_6 a0_7 l0_8 l0_9 l0_10 a1 a2 a3 = some (r1, r2, r3, r4, r5)) :
    Calls Tryd.prog 8 #[.agg #[.int .i64 a0_0, .int .i64 a0_1, .int .i64 a0_2, .int .i64 a0_3, .int .i64 a0_4, .int .i64 a0_5, .int .i64 a0_6, .int .i64 a0_7, .slice A0_8 l0_8.length c0_8, .slice A0_9 l0_9.length c0_9, .slice A0_10 l0_10.length c0_10], .int .i64 a1, .int .i64 a2, .int .i64 a3] w fun e w' => e = .returned (.tuple #[.agg #[.int .i64 r1, .int .i64 r2, .int .i64 r3, .int .i64 r4], .int .i64 r5]) ∧ Below w.heap.size w w' := by
  have hu28 := Tryd.underlying28
  have hu32 := Tryd.underlying32
  have hu54 := Tryd.underlying54
  have hu52 := Tryd.underlying52
  have hu62 := Tryd.underlying62
  have HR0_8 := Aside0.mk hr0_8
  have HC0_8 := Aside0.mk hc0_8
  clear hr0_8 hc0_8
  have HR0_9 := Aside0.mk hr0_9
  have HC0_9 := Aside0.mk hc0_9
  clear hr0_9 hc0_9
  have HR0_10 := Aside0.mk hr0_10
  have HC0_10 := Aside0.mk hc0_10
  clear hr0_10 hc0_10
  have HB := Aside0.mk (Below.refl w.heap.size w)
  have H : ((atlas_May.f k a0_0 a0_1 a0_2 a0_3 a0_4 a0_5 a0_6 a0_7 l0_8 l0_9 l0_10).bind fun t156 => (if t156 = true then (if a1 < 0 then (sample_At.j0 k a1 a2 a3 true a0_0 a0_1 a0_2 a0_3 a0_4 a0_5 a0_6 a0_7 l0_8 l0_9 l0_10) else (sample_At.j0 k a1 a2 a3 (decide (a1 ≥ (l0_8.length : Int))) a0_0 a0_1 a0_2 a0_3 a0_4 a0_5 a0_6 a0_7 l0_8 l0_9 l0_10)) else (sample_At.j0 k a1 a2 a3 true a0_0 a0_1 a0_2 a0_3 a0_4 a0_5 a0_6 a0_7 l0_8 l0_9 l0_10))) = some (r1, r2, r3, r4, r5) := h
  clear h
  have HC5 := Aside0.mk H
  clear H
  go_enter Tryd.func8, Tryd.ntmps8
  go_upto_region 1 with (first | ((with_reducible refine gate_dst (N := 4) rfl ?_); refine box_event ?hg (N := 4) ?hd (cs := #[.int .i64 a0_0, .int .i64 a0_1, .int .i64 a0_2, .int .i64 a0_3, .int .i64 a0_4, .int .i64 a0_5, .int .i64 a0_6, .int .i64 a0_7, .slice A0_8 l0_8.length c0_8, .slice A0_9 l0_9.length c0_9, .slice A0_10 l0_10.length c0_10]) (t := 28) ?hr ?_; (case hd => rfl); (case hg => rfl); (case hr => first | (go_simp; done) | (go_simp; rfl)); intro gb154 hg w6 hbox hb; have n0_ := Aside0.mk (below_step (by repeat (first | (with_reducible first | exact HB.out | apply below_alloc | apply pw_below_drewN | apply below_drew1) | exact HB.out)) hb); have n1_ := Aside0.mk (hbox); have n2_ := Aside0.mk ((by rw [hg]; exact (below_size (by repeat (first | (with_reducible first | exact HB.out | apply below_alloc | apply pw_below_drewN | apply below_drew1) | exact HB.out))) : w.heap.size ≤ gb154)); have n3_ := Aside0.mk ((by rw [hg]; exact (below_size (by repeat (first | (with_reducible first | exact HB.out | apply below_alloc | apply pw_below_drewN | apply below_drew1) | exact HB.out))) : w.heap.size ≤ gb154)); clear HB; have HB := n0_; have BK154 := n1_; have GW154 := n2_; have GE154 := n3_; clear n0_ n1_ n2_ n3_; clear hb hbox hg) | ((with_reducible refine gate_dst (N := 8) rfl ?_); refine box_event ?hg (N := 8) ?hd (cs := #[.int .i64 0, .int .i64 0, .int .i64 0, .int .i64 0]) (t := 32) ?hr ?_; (case hd => rfl); (case hg => rfl); (case hr => first | (go_simp; done) | (go_simp; rfl)); intro gb155 hg w7 hbox hb; have n0_ := Aside0.mk (blk_below (g := gb154) (o := .cells #[.int .i64 a0_0, .int .i64 a0_1, .int .i64 a0_2, .int .i64 a0_3, .int .i64 a0_4, .int .i64 a0_5, .int .i64 a0_6, .int .i64 a0_7, .slice A0_8 l0_8.length c0_8, .slice A0_9 l0_9.length c0_9, .slice A0_10 l0_10.length c0_10] 28 (0, 0)) (by (with_reducible repeat (first | refine blk_drewN ?_ _ | refine blk_drew ?_ | refine blk_alloc ?_ _)); exact BK154.out) hb); have n1_ := Aside0.mk (below_step (by repeat (first | (with_reducible first | exact HB.out | apply below_alloc | apply pw_below_drewN | apply below_drew1 | refine below_set ?_ GE154.out) | exact HB.out)) hb); have n2_ := Aside0.mk (hbox); have n3_ := Aside0.mk ((by rw [hg]; exact (below_size (by repeat (first | (with_reducible first | exact HB.out | apply below_alloc | apply pw_below_drewN | apply below_drew1 | refine below_set ?_ GE154.out) | exact HB.out))) : w.heap.size ≤ gb155)); have n4_ := Aside0.mk ((by rw [hg]; exact (below_size (by repeat (first | (with_reducible first | exact HB.out | apply below_alloc | apply pw_below_drewN | apply below_drew1 | refine below_set ?_ GE154.out) | exact HB.out))) : w.heap.size ≤ gb155)); have n5_ := Aside0.mk ((by rw [hg]; exact Nat.ne_of_lt (blk_lt (g := gb154) (o := .cells #[.int .i64 a0_0, .int .i64 a0_1, .int .i64 a0_2, .int .i64 a0_3, .int .i64 a0_4, .int .i64 a0_5, .int .i64 a0_6, .int .i64 a0_7, .slice A0_8 l0_8.length c0_8, .slice A0_9 l0_9.length c0_9, .slice A0_10 l0_10.length c0_10] 28 (0, 0)) (by (with_reducible repeat (first | refine blk_drewN ?_ _ | refine blk_drew ?_ | refine blk_alloc ?_ _)); exact BK154.out)) : gb154 ≠ gb155)); have n6_ := Aside0.mk ((by rw [hg]; exact Nat.ne_of_gt (blk_lt (g := gb154) (o := .cells #[.int .i64 a0_0, .int .i64 a0_1, .int .i64 a0_2, .int .i64 a0_3, .int .i64 a0_4, .int .i64 a0_5, .int .i64 a0_6, .int .i64 a0_7, .slice A0_8 l0_8.length c0_8, .slice A0_9 l0_9.length c0_9, .slice A0_10 l0_10.length c0_10] 28 (0, 0)) (by (with_reducible repeat (first | refine blk_drewN ?_ _ | refine blk_drew ?_ | refine blk_alloc ?_ _)); exact BK154.out)) : gb155 ≠ gb154)); clear BK154; clear HB; have BK154 := n0_; have HB := n1_; have BK155 := n2_; have GW155 := n3_; have GE155 := n4_; have NB154_155 := n5_; have NB155_154 := n6_; clear n0_ n1_ n2_ n3_ n4_ n5_ n6_; clear hb hbox hg))
  (try simp only [Act.put, List.setIfInBounds_toArray, List.set_cons_zero, List.set_cons_succ])
  go_cut [30] (fun v30 wc => ∃ (kq : Nat) (x30_4 : Bool), v30 = .bool x30_4 ∧ Aside0 (sample_At.j0 kq a1 a2 a3 x30_4 a0_0 a0_1 a0_2 a0_3 a0_4 a0_5 a0_6 a0_7 l0_8 l0_9 l0_10 = some (r1, r2, r3, r4, r5)) ∧ Aside0 (kq ≤ k) ∧ Aside0 (wc.heap[gb154]? = some (.cells #[.int .i64 a0_0, .int .i64 a0_1, .int .i64 a0_2, .int .i64 a0_3, .int .i64 a0_4, .int .i64 a0_5, .int .i64 a0_6, .int .i64 a0_7, (.slice A0_8 l0_8.length c0_8), (.slice A0_9 l0_9.length c0_9), (.slice A0_10 l0_10.length c0_10)] 28 (0, 0))) ∧ Aside0 (wc.heap[gb155]? = some (.cells #[.int .i64 0, .int .i64 0, .int .i64 0, .int .i64 0] 32 (0, 0))) ∧ Aside0 (Below w.heap.size w wc))
  case first =>
    have H := HC5.out
    clear HC5
    replace H := Option.bind_eq_some_iff.mp H
    obtain ⟨t156, A80, H⟩ := H
    replace H : (if t156 = true then (if a1 < 0 then (sample_At.j0 k a1 a2 a3 true a0_0 a0_1 a0_2 a0_3 a0_4 a0_5 a0_6 a0_7 l0_8 l0_9 l0_10) else (sample_At.j0 k a1 a2 a3 (decide (a1 ≥ (l0_8.length : Int))) a0_0 a0_1 a0_2 a0_3 a0_4 a0_5 a0_6 a0_7 l0_8 l0_9 l0_10)) else (sample_At.j0 k a1 a2 a3 true a0_0 a0_1 a0_2 a0_3 a0_4 a0_5 a0_6 a0_7 l0_8 l0_9 l0_10)) = some (r1, r2, r3, r4, r5) := H
    have A8 := Aside0.mk A80
    clear A80
    by_cases c9 : t156 = true
    · subst c9
      have H1 : (if a1 < 0 then (sample_At.j0 k a1 a2 a3 true a0_0 a0_1 a0_2 a0_3 a0_4 a0_5 a0_6 a0_7 l0_8 l0_9 l0_10) else (sample_At.j0 k a1 a2 a3 (decide (a1 ≥ (l0_8.length : Int))) a0_0 a0_1 a0_2 a0_3 a0_4 a0_5 a0_6 a0_7 l0_8 l0_9 l0_10)) = some (r1, r2, r3, r4, r5) := by rw [if_pos rfl] at H; exact H
      clear H
      have H := H1
      clear H1
      by_cases c10 : a1 < 0
      · rw [if_pos c10] at H
        have c10b0 : decide (a1 < 0) = true := decide_eq_true c10
        clear c10
        (first | rw [c10b0] | (simp only [i64_w, i32_w]; rw [c10b0]) | skip)
        have H' := Aside0.mk H
        clear H
        have hnb11 := NB154_155.out
        have hnc11 := NB155_154.out
        have hcz12_0 : w7.cell? ⟨gb154, 0, none⟩ = some (.int .i64 a0_0) := (blk_cell BK154.out 0).trans rfl
        have hcz12_1 : w7.cell? ⟨gb154, 1, none⟩ = some (.int .i64 a0_1) := (blk_cell BK154.out 1).trans rfl
        have hcz12_2 : w7.cell? ⟨gb154, 2, none⟩ = some (.int .i64 a0_2) := (blk_cell BK154.out 2).trans rfl
        have hcz12_3 : w7.cell? ⟨gb154, 3, none⟩ = some (.int .i64 a0_3) := (blk_cell BK154.out 3).trans rfl
        have hcz12_4 : w7.cell? ⟨gb154, 4, none⟩ = some (.int .i64 a0_4) := (blk_cell BK154.out 4).trans rfl
        have hcz12_5 : w7.cell? ⟨gb154, 5, none⟩ = some (.int .i64 a0_5) := (blk_cell BK154.out 5).trans rfl
        have hcz12_6 : w7.cell? ⟨gb154, 6, none⟩ = some (.int .i64 a0_6) := (blk_cell BK154.out 6).trans rfl
        have hcz12_7 : w7.cell? ⟨gb154, 7, none⟩ = some (.int .i64 a0_7) := (blk_cell BK154.out 7).trans rfl
        have hcz12_8 : w7.cell? ⟨gb154, 8, none⟩ = some (.slice A0_8 l0_8.length c0_8) := (blk_cell BK154.out 8).trans rfl
        have hcz12_9 : w7.cell? ⟨gb154, 9, none⟩ = some (.slice A0_9 l0_9.length c0_9) := (blk_cell BK154.out 9).trans rfl
        have hcz12_10 : w7.cell? ⟨gb154, 10, none⟩ = some (.slice A0_10 l0_10.length c0_10) := (blk_cell BK154.out 10).trans rfl
        have hfz12_0 := blk_frozen BK154.out 0
        have hfz12_1 := blk_frozen BK154.out 1
        have hfz12_2 := blk_frozen BK154.out 2
        have hfz12_3 := blk_frozen BK154.out 3
        have hfz12_4 := blk_frozen BK154.out 4
        have hfz12_5 := blk_frozen BK154.out 5
        have hfz12_6 := blk_frozen BK154.out 6
        have hfz12_7 := blk_frozen BK154.out 7
        have hfz12_8 := blk_frozen BK154.out 8
        have hfz12_9 := blk_frozen BK154.out 9
        have hfz12_10 := blk_frozen BK154.out 10
        go_wp2_with (first | ((with_reducible refine gate_callee (f := 16) rfl ?_); refine goesL_ (some 18) rfl rfl Tryd.func16 (by kernel_rfl) rfl #[.agg #[.int .i64 a0_0, .int .i64 a0_1, .int .i64 a0_2, .int .i64 a0_3, .int .i64 a0_4, .int .i64 a0_5, .int .i64 a0_6, .int .i64 a0_7, .slice A0_8 l0_8.length c0_8, .slice A0_9 l0_9.length c0_9, .slice A0_10 l0_10.length c0_10]] rfl (by (try simp only [List.map_toArray, List.map_cons, List.map_nil]); first | done | rfl | (simp only [List.length_drop, List.length_take]; rfl)) ?_; (with_reducible refine (atlas_May.calls k a0_0 a0_1 a0_2 a0_3 a0_4 a0_5 a0_6 a0_7 _ _ l0_8 _ _ l0_9 _ _ l0_10 true _ ?side1 ?side2 ?side3 ?side4 ?side5 ?side6 A8.out).mono ?_); (case side1 => repeat (first | exact (Kd.C_below HR0_8.out HB.out) | (with_reducible refine Kd.C_alloc ?_ _) | (with_reducible refine Kd.C_drewN ?_ _) | (with_reducible refine Kd.C_drew ?_))); (case side2 => exact HC0_8.out); (case side3 => repeat (first | exact (Kd.C_below HR0_9.out HB.out) | (with_reducible refine Kd.C_alloc ?_ _) | (with_reducible refine Kd.C_drewN ?_ _) | (with_reducible refine Kd.C_drew ?_))); (case side4 => exact HC0_9.out); (case side5 => repeat (first | exact (Kd.C_below HR0_10.out HB.out) | (with_reducible refine Kd.C_alloc ?_ _) | (with_reducible refine Kd.C_drewN ?_ _) | (with_reducible refine Kd.C_drew ?_))); (case side6 => exact HC0_10.out); rintro e w13 ⟨rfl, hb⟩; refine ⟨_, rfl, ?_⟩; have n0_ := Aside0.mk (blk_below (g := gb154) (o := .cells #[.int .i64 a0_0, .int .i64 a0_1, .int .i64 a0_2, .int .i64 a0_3, .int .i64 a0_4, .int .i64 a0_5, .int .i64 a0_6, .int .i64 a0_7, .slice A0_8 l0_8.length c0_8, .slice A0_9 l0_9.length c0_9, .slice A0_10 l0_10.length c0_10] 28 (0, 0)) (by (with_reducible repeat (first | refine blk_drewN ?_ _ | refine blk_drew ?_ | refine blk_alloc ?_ _)); exact BK154.out) hb); have n1_ := Aside0.mk (blk_below (g := gb155) (o := .cells #[.int .i64 0, .int .i64 0, .int .i64 0, .int .i64 0] 32 (0, 0)) (by (with_reducible repeat (first | refine blk_drewN ?_ _ | refine blk_drew ?_ | refine blk_alloc ?_ _)); exact BK155.out) hb); have n2_ := Aside0.mk (below_step (by repeat (first | (with_reducible first | exact HB.out | apply below_alloc | apply pw_below_drewN | apply below_drew1 | refine below_set ?_ GE154.out | refine below_set ?_ GE155.out) | exact HB.out)) hb); clear BK154; clear BK155; clear HB; have BK154 := n0_; have BK155 := n1_; have HB := n2_; clear n0_ n1_ n2_; (try clear hb); (try clear hb2); (try clear hk); (try clear hi)))
        go_meet
        case rel => exact ⟨_, (true), (by first | rfl | (simp; done) | (simp [*]; done)), H', ⟨by first | omega | exact Nat.le_refl _⟩, ⟨by (with_reducible repeat (first | refine blk_drewN ?_ _ | refine blk_drew ?_ | refine blk_alloc ?_ _)); exact BK154.out⟩, ⟨by (with_reducible repeat (first | refine blk_drewN ?_ _ | refine blk_drew ?_ | refine blk_alloc ?_ _)); exact BK155.out⟩, ⟨by repeat (first | (with_reducible first | exact HB.out | apply below_alloc | apply pw_below_drewN | apply below_drew1 | refine below_set ?_ GE154.out | refine below_set ?_ GE155.out) | exact HB.out)⟩⟩
      · rw [if_neg c10] at H
        have c10b0 : decide (a1 < 0) = false := decide_eq_false c10
        clear c10
        (first | rw [c10b0] | (simp only [i64_w, i32_w]; rw [c10b0]) | skip)
        have H' := Aside0.mk H
        clear H
        have hnb14 := NB154_155.out
        have hnc14 := NB155_154.out
        have hcz15_0 : w7.cell? ⟨gb154, 0, none⟩ = some (.int .i64 a0_0) := (blk_cell BK154.out 0).trans rfl
        have hcz15_1 : w7.cell? ⟨gb154, 1, none⟩ = some (.int .i64 a0_1) := (blk_cell BK154.out 1).trans rfl
        have hcz15_2 : w7.cell? ⟨gb154, 2, none⟩ = some (.int .i64 a0_2) := (blk_cell BK154.out 2).trans rfl
        have hcz15_3 : w7.cell? ⟨gb154, 3, none⟩ = some (.int .i64 a0_3) := (blk_cell BK154.out 3).trans rfl
        have hcz15_4 : w7.cell? ⟨gb154, 4, none⟩ = some (.int .i64 a0_4) := (blk_cell BK154.out 4).trans rfl
        have hcz15_5 : w7.cell? ⟨gb154, 5, none⟩ = some (.int .i64 a0_5) := (blk_cell BK154.out 5).trans rfl
        have hcz15_6 : w7.cell? ⟨gb154, 6, none⟩ = some (.int .i64 a0_6) := (blk_cell BK154.out 6).trans rfl
        have hcz15_7 : w7.cell? ⟨gb154, 7, none⟩ = some (.int .i64 a0_7) := (blk_cell BK154.out 7).trans rfl
        have hcz15_8 : w7.cell? ⟨gb154, 8, none⟩ = some (.slice A0_8 l0_8.length c0_8) := (blk_cell BK154.out 8).trans rfl
        have hcz15_9 : w7.cell? ⟨gb154, 9, none⟩ = some (.slice A0_9 l0_9.length c0_9) := (blk_cell BK154.out 9).trans rfl
        have hcz15_10 : w7.cell? ⟨gb154, 10, none⟩ = some (.slice A0_10 l0_10.length c0_10) := (blk_cell BK154.out 10).trans rfl
        have hfz15_0 := blk_frozen BK154.out 0
        have hfz15_1 := blk_frozen BK154.out 1
        have hfz15_2 := blk_frozen BK154.out 2
        have hfz15_3 := blk_frozen BK154.out 3
        have hfz15_4 := blk_frozen BK154.out 4
        have hfz15_5 := blk_frozen BK154.out 5
        have hfz15_6 := blk_frozen BK154.out 6
        have hfz15_7 := blk_frozen BK154.out 7
        have hfz15_8 := blk_frozen BK154.out 8
        have hfz15_9 := blk_frozen BK154.out 9
        have hfz15_10 := blk_frozen BK154.out 10
        go_wp2_with (first | ((with_reducible refine gate_callee (f := 16) rfl ?_); refine goesL_ (some 18) rfl rfl Tryd.func16 (by kernel_rfl) rfl #[.agg #[.int .i64 a0_0, .int .i64 a0_1, .int .i64 a0_2, .int .i64 a0_3, .int .i64 a0_4, .int .i64 a0_5, .int .i64 a0_6, .int .i64 a0_7, .slice A0_8 l0_8.length c0_8, .slice A0_9 l0_9.length c0_9, .slice A0_10 l0_10.length c0_10]] rfl (by (try simp only [List.map_toArray, List.map_cons, List.map_nil]); first | done | rfl | (simp only [List.length_drop, List.length_take]; rfl)) ?_; (with_reducible refine (atlas_May.calls k a0_0 a0_1 a0_2 a0_3 a0_4 a0_5 a0_6 a0_7 _ _ l0_8 _ _ l0_9 _ _ l0_10 true _ ?side1 ?side2 ?side3 ?side4 ?side5 ?side6 A8.out).mono ?_); (case side1 => repeat (first | exact (Kd.C_below HR0_8.out HB.out) | (with_reducible refine Kd.C_alloc ?_ _) | (with_reducible refine Kd.C_drewN ?_ _) | (with_reducible refine Kd.C_drew ?_))); (case side2 => exact HC0_8.out); (case side3 => repeat (first | exact (Kd.C_below HR0_9.out HB.out) | (with_reducible refine Kd.C_alloc ?_ _) | (with_reducible refine Kd.C_drewN ?_ _) | (with_reducible refine Kd.C_drew ?_))); (case side4 => exact HC0_9.out); (case side5 => repeat (first | exact (Kd.C_below HR0_10.out HB.out) | (with_reducible refine Kd.C_alloc ?_ _) | (with_reducible refine Kd.C_drewN ?_ _) | (with_reducible refine Kd.C_drew ?_))); (case side6 => exact HC0_10.out); rintro e w16 ⟨rfl, hb⟩; refine ⟨_, rfl, ?_⟩; have n0_ := Aside0.mk (blk_below (g := gb154) (o := .cells #[.int .i64 a0_0, .int .i64 a0_1, .int .i64 a0_2, .int .i64 a0_3, .int .i64 a0_4, .int .i64 a0_5, .int .i64 a0_6, .int .i64 a0_7, .slice A0_8 l0_8.length c0_8, .slice A0_9 l0_9.length c0_9, .slice A0_10 l0_10.length c0_10] 28 (0, 0)) (by (with_reducible repeat (first | refine blk_drewN ?_ _ | refine blk_drew ?_ | refine blk_alloc ?_ _)); exact BK154.out) hb); have n1_ := Aside0.mk (blk_below (g := gb155) (o := .cells #[.int .i64 0, .int .i64 0, .int .i64 0, .int .i64 0] 32 (0, 0)) (by (with_reducible repeat (first | refine blk_drewN ?_ _ | refine blk_drew ?_ | refine blk_alloc ?_ _)); exact BK155.out) hb); have n2_ := Aside0.mk (below_step (by repeat (first | (with_reducible first | exact HB.out | apply below_alloc | apply pw_below_drewN | apply below_drew1 | refine below_set ?_ GE154.out | refine below_set ?_ GE155.out) | exact HB.out)) hb); clear BK154; clear BK155; clear HB; have BK154 := n0_; have BK155 := n1_; have HB := n2_; clear n0_ n1_ n2_; (try clear hb); (try clear hb2); (try clear hk); (try clear hi); have hcz17_0 : w16.cell? ⟨gb154, 0, none⟩ = some (.int .i64 a0_0) := (blk_cell BK154.out 0).trans rfl; have hcz17_1 : w16.cell? ⟨gb154, 1, none⟩ = some (.int .i64 a0_1) := (blk_cell BK154.out 1).trans rfl; have hcz17_2 : w16.cell? ⟨gb154, 2, none⟩ = some (.int .i64 a0_2) := (blk_cell BK154.out 2).trans rfl; have hcz17_3 : w16.cell? ⟨gb154, 3, none⟩ = some (.int .i64 a0_3) := (blk_cell BK154.out 3).trans rfl; have hcz17_4 : w16.cell? ⟨gb154, 4, none⟩ = some (.int .i64 a0_4) := (blk_cell BK154.out 4).trans rfl; have hcz17_5 : w16.cell? ⟨gb154, 5, none⟩ = some (.int .i64 a0_5) := (blk_cell BK154.out 5).trans rfl; have hcz17_6 : w16.cell? ⟨gb154, 6, none⟩ = some (.int .i64 a0_6) := (blk_cell BK154.out 6).trans rfl; have hcz17_7 : w16.cell? ⟨gb154, 7, none⟩ = some (.int .i64 a0_7) := (blk_cell BK154.out 7).trans rfl; have hcz17_8 : w16.cell? ⟨gb154, 8, none⟩ = some (.slice A0_8 l0_8.length c0_8) := (blk_cell BK154.out 8).trans rfl; have hcz17_9 : w16.cell? ⟨gb154, 9, none⟩ = some (.slice A0_9 l0_9.length c0_9) := (blk_cell BK154.out 9).trans rfl; have hcz17_10 : w16.cell? ⟨gb154, 10, none⟩ = some (.slice A0_10 l0_10.length c0_10) := (blk_cell BK154.out 10).trans rfl; have hfz17_0 := blk_frozen BK154.out 0; have hfz17_1 := blk_frozen BK154.out 1; have hfz17_2 := blk_frozen BK154.out 2; have hfz17_3 := blk_frozen BK154.out 3; have hfz17_4 := blk_frozen BK154.out 4; have hfz17_5 := blk_frozen BK154.out 5; have hfz17_6 := blk_frozen BK154.out 6; have hfz17_7 := blk_frozen BK154.out 7; have hfz17_8 := blk_frozen BK154.out 8; have hfz17_9 := blk_frozen BK154.out 9; have hfz17_10 := blk_frozen BK154.out 10))
        go_meet
        case rel => exact ⟨_, (decide (a1 ≥ (l0_8.length : Int))), (by first | rfl | (simp; done) | (simp [*]; done)), H', ⟨by first | omega | exact Nat.le_refl _⟩, ⟨by (with_reducible repeat (first | refine blk_drewN ?_ _ | refine blk_drew ?_ | refine blk_alloc ?_ _)); exact BK154.out⟩, ⟨by (with_reducible repeat (first | refine blk_drewN ?_ _ | refine blk_drew ?_ | refine blk_alloc ?_ _)); exact BK155.out⟩, ⟨by repeat (first | (with_reducible first | exact HB.out | apply below_alloc | apply pw_below_drewN | apply below_drew1 | refine below_set ?_ GE154.out | refine below_set ?_ GE155.out) | exact HB.out)⟩⟩
    · replace c9 := Bool.eq_false_iff.mpr c9
      subst c9
      have H1 : (sample_At.j0 k a1 a2 a3 true a0_0 a0_1 a0_2 a0_3 a0_4 a0_5 a0_6 a0_7 l0_8 l0_9 l0_10) = some (r1, r2, r3, r4, r5) := by rw [if_neg (show ¬ (false = true) by decide)] at H; exact H
      clear H
      have H := H1
      clear H1
      have H' := Aside0.mk H
      clear H
      have hnb18 := NB154_155.out
      have hnc18 := NB155_154.out
      have hcz19_0 : w7.cell? ⟨gb154, 0, none⟩ = some (.int .i64 a0_0) := (blk_cell BK154.out 0).trans rfl
      have hcz19_1 : w7.cell? ⟨gb154, 1, none⟩ = some (.int .i64 a0_1) := (blk_cell BK154.out 1).trans rfl
      have hcz19_2 : w7.cell? ⟨gb154, 2, none⟩ = some (.int .i64 a0_2) := (blk_cell BK154.out 2).trans rfl
      have hcz19_3 : w7.cell? ⟨gb154, 3, none⟩ = some (.int .i64 a0_3) := (blk_cell BK154.out 3).trans rfl
      have hcz19_4 : w7.cell? ⟨gb154, 4, none⟩ = some (.int .i64 a0_4) := (blk_cell BK154.out 4).trans rfl
      have hcz19_5 : w7.cell? ⟨gb154, 5, none⟩ = some (.int .i64 a0_5) := (blk_cell BK154.out 5).trans rfl
      have hcz19_6 : w7.cell? ⟨gb154, 6, none⟩ = some (.int .i64 a0_6) := (blk_cell BK154.out 6).trans rfl
      have hcz19_7 : w7.cell? ⟨gb154, 7, none⟩ = some (.int .i64 a0_7) := (blk_cell BK154.out 7).trans rfl
      have hcz19_8 : w7.cell? ⟨gb154, 8, none⟩ = some (.slice A0_8 l0_8.length c0_8) := (blk_cell BK154.out 8).trans rfl
      have hcz19_9 : w7.cell? ⟨gb154, 9, none⟩ = some (.slice A0_9 l0_9.length c0_9) := (blk_cell BK154.out 9).trans rfl
      have hcz19_10 : w7.cell? ⟨gb154, 10, none⟩ = some (.slice A0_10 l0_10.length c0_10) := (blk_cell BK154.out 10).trans rfl
      have hfz19_0 := blk_frozen BK154.out 0
      have hfz19_1 := blk_frozen BK154.out 1
      have hfz19_2 := blk_frozen BK154.out 2
      have hfz19_3 := blk_frozen BK154.out 3
      have hfz19_4 := blk_frozen BK154.out 4
      have hfz19_5 := blk_frozen BK154.out 5
      have hfz19_6 := blk_frozen BK154.out 6
      have hfz19_7 := blk_frozen BK154.out 7
      have hfz19_8 := blk_frozen BK154.out 8
      have hfz19_9 := blk_frozen BK154.out 9
      have hfz19_10 := blk_frozen BK154.out 10
      go_wp2_with (first | ((with_reducible refine gate_callee (f := 16) rfl ?_); refine goesL_ (some 18) rfl rfl Tryd.func16 (by kernel_rfl) rfl #[.agg #[.int .i64 a0_0, .int .i64 a0_1, .int .i64 a0_2, .int .i64 a0_3, .int .i64 a0_4, .int .i64 a0_5, .int .i64 a0_6, .int .i64 a0_7, .slice A0_8 l0_8.length c0_8, .slice A0_9 l0_9.length c0_9, .slice A0_10 l0_10.length c0_10]] rfl (by (try simp only [List.map_toArray, List.map_cons, List.map_nil]); first | done | rfl | (simp only [List.length_drop, List.length_take]; rfl)) ?_; (with_reducible refine (atlas_May.calls k a0_0 a0_1 a0_2 a0_3 a0_4 a0_5 a0_6 a0_7 _ _ l0_8 _ _ l0_9 _ _ l0_10 false _ ?side1 ?side2 ?side3 ?side4 ?side5 ?side6 A8.out).mono ?_); (case side1 => repeat (first | exact (Kd.C_below HR0_8.out HB.out) | (with_reducible refine Kd.C_alloc ?_ _) | (with_reducible refine Kd.C_drewN ?_ _) | (with_reducible refine Kd.C_drew ?_))); (case side2 => exact HC0_8.out); (case side3 => repeat (first | exact (Kd.C_below HR0_9.out HB.out) | (with_reducible refine Kd.C_alloc ?_ _) | (with_reducible refine Kd.C_drewN ?_ _) | (with_reducible refine Kd.C_drew ?_))); (case side4 => exact HC0_9.out); (case side5 => repeat (first | exact (Kd.C_below HR0_10.out HB.out) | (with_reducible refine Kd.C_alloc ?_ _) | (with_reducible refine Kd.C_drewN ?_ _) | (with_reducible refine Kd.C_drew ?_))); (case side6 => exact HC0_10.out); rintro e w20 ⟨rfl, hb⟩; refine ⟨_, rfl, ?_⟩; have n0_ := Aside0.mk (blk_below (g := gb154) (o := .cells #[.int .i64 a0_0, .int .i64 a0_1, .int .i64 a0_2, .int .i64 a0_3, .int .i64 a0_4, .int .i64 a0_5, .int .i64 a0_6, .int .i64 a0_7, .slice A0_8 l0_8.length c0_8, .slice A0_9 l0_9.length c0_9, .slice A0_10 l0_10.length c0_10] 28 (0, 0)) (by (with_reducible repeat (first | refine blk_drewN ?_ _ | refine blk_drew ?_ | refine blk_alloc ?_ _)); exact BK154.out) hb); have n1_ := Aside0.mk (blk_below (g := gb155) (o := .cells #[.int .i64 0, .int .i64 0, .int .i64 0, .int .i64 0] 32 (0, 0)) (by (with_reducible repeat (first | refine blk_drewN ?_ _ | refine blk_drew ?_ | refine blk_alloc ?_ _)); exact BK155.out) hb); have n2_ := Aside0.mk (below_step (by repeat (first | (with_reducible first | exact HB.out | apply below_alloc | apply pw_below_drewN | apply below_drew1 | refine below_set ?_ GE154.out | refine below_set ?_ GE155.out) | exact HB.out)) hb); clear BK154; clear BK155; clear HB; have BK154 := n0_; have BK155 := n1_; have HB := n2_; clear n0_ n1_ n2_; (try clear hb); (try clear hb2); (try clear hk); (try clear hi)))
      go_meet
      case rel => exact ⟨_, (true), (by first | rfl | (simp; done) | (simp [*]; done)), H', ⟨by first | omega | exact Nat.le_refl _⟩, ⟨by (with_reducible repeat (first | refine blk_drewN ?_ _ | refine blk_drew ?_ | refine blk_alloc ?_ _)); exact BK154.out⟩, ⟨by (with_reducible repeat (first | refine blk_drewN ?_ _ | refine blk_drew ?_ | refine blk_alloc ?_ _)); exact BK155.out⟩, ⟨by repeat (first | (with_reducible first | exact HB.out | apply below_alloc | apply pw_below_drewN | apply below_drew1 | refine below_set ?_ GE154.out | refine below_set ?_ GE155.out) | exact HB.out)⟩⟩
  case rest =>
    clear HC5
    try clear c1
    try clear p2
    try clear c8
    try clear c9
    try clear c10
    try clear c10b0
    try clear c11
    try clear c14
    try clear c16
    try clear c18
    try clear hcz12_0
    try clear hcz12_1
    try clear hcz12_10
    try clear hcz12_2
    try clear hcz12_3
    try clear hcz12_4
    try clear hcz12_5
    try clear hcz12_6
    try clear hcz12_7
    try clear hcz12_8
    try clear hcz12_9
    try clear hcz15_0
    try clear hcz15_1
    try clear hcz15_10
    try clear hcz15_2
    try clear hcz15_3
    try clear hcz15_4
    try clear hcz15_5
    try clear hcz15_6
    try clear hcz15_7
    try clear hcz15_8
    try clear hcz15_9
    try clear hcz17_0
    try clear hcz17_1
    try clear hcz17_10
    try clear hcz17_2
    try clear hcz17_3
    try clear hcz17_4
    try clear hcz17_5
    try clear hcz17_6
    try clear hcz17_7
    try clear hcz17_8
    try clear hcz17_9
    try clear hcz19_0
    try clear hcz19_1
    try clear hcz19_10
    try clear hcz19_2
    try clear hcz19_3
    try clear hcz19_4
    try clear hcz19_5
    try clear hcz19_6
    try clear hcz19_7
    try clear hcz19_8
    try clear hcz19_9
    try clear hfz12_0
    try clear hfz12_1
    try clear hfz12_10
    try clear hfz12_2
    try clear hfz12_3
    try clear hfz12_4
    try clear hfz12_5
    try clear hfz12_6
    try clear hfz12_7
    try clear hfz12_8
    try clear hfz12_9
    try clear hfz15_0
    try clear hfz15_1
    try clear hfz15_10
    try clear hfz15_2
    try clear hfz15_3
    try clear hfz15_4
    try clear hfz15_5
    try clear hfz15_6
    try clear hfz15_7
    try clear hfz15_8
    try clear hfz15_9
    try clear hfz17_0
    try clear hfz17_1
    try clear hfz17_10
    try clear hfz17_2
    try clear hfz17_3
    try clear hfz17_4
    try clear hfz17_5
    try clear hfz17_6
    try clear hfz17_7
    try clear hfz17_8
    try clear hfz17_9
    try clear hfz19_0
    try clear hfz19_1
    try clear hfz19_10
    try clear hfz19_2
    try clear hfz19_3
    try clear hfz19_4
    try clear hfz19_5
    try clear hfz19_6
    try clear hfz19_7
    try clear hfz19_8
    try clear hfz19_9
    obtain ⟨kq, x30_4, rfl, HA, HJ4, BK154, BK155, HB⟩ := hcut
    cases kq with
    | zero => exact absurd HA.out (by simp [sample_At.j0])
    | succ kj4 =>
      have H := HA.out
      clear HA
      simp only [sample_At.j0] at H
      by_cases c21 : x30_4 = true
      · subst c21
        have H1 : (some (0, 0, 0, 0, 1)) = some (r1, r2, r3, r4, r5) := by rw [if_pos rfl] at H; exact H
        clear H
        have H := H1
        clear H1
        simp only [Option.some.injEq, Prod.mk.injEq] at H
        obtain ⟨rfl, rfl, rfl, rfl, rfl⟩ := H
        have hnb22 := NB155_154.out
        have hnc22 := NB154_155.out
        have hcz23_0 : wc.cell? ⟨gb155, 0, none⟩ = some (.int .i64 0) := (blk_cell BK155.out 0).trans rfl
        have hcz23_1 : wc.cell? ⟨gb155, 1, none⟩ = some (.int .i64 0) := (blk_cell BK155.out 1).trans rfl
        have hcz23_2 : wc.cell? ⟨gb155, 2, none⟩ = some (.int .i64 0) := (blk_cell BK155.out 2).trans rfl
        have hcz23_3 : wc.cell? ⟨gb155, 3, none⟩ = some (.int .i64 0) := (blk_cell BK155.out 3).trans rfl
        have hfz23_0 := blk_frozen BK155.out 0
        have hfz23_1 := blk_frozen BK155.out 1
        have hfz23_2 := blk_frozen BK155.out 2
        have hfz23_3 := blk_frozen BK155.out 3
        go_wp2
        refine bodyPost_ret (results_ct rfl _ _ gb155 32 #[.int .i64 0, .int .i64 0, .int .i64 0, .int .i64 0] (0, 0) _ rfl (by (with_reducible repeat (first | refine blk_drewN ?_ _ | refine blk_drew ?_ | refine blk_alloc ?_ _)); refine blk_put (cs := #[.int .i64 0, .int .i64 0, .int .i64 0, .int .i64 0]) ?_ 3 _ rfl; (with_reducible repeat (first | refine blk_drewN ?_ _ | refine blk_drew ?_ | refine blk_alloc ?_ _)); refine blk_put (cs := #[.int .i64 0, .int .i64 0, .int .i64 0, .int .i64 0]) ?_ 2 _ rfl; (with_reducible repeat (first | refine blk_drewN ?_ _ | refine blk_drew ?_ | refine blk_alloc ?_ _)); refine blk_put (cs := #[.int .i64 0, .int .i64 0, .int .i64 0, .int .i64 0]) ?_ 1 _ rfl; (with_reducible repeat (first | refine blk_drewN ?_ _ | refine blk_drew ?_ | refine blk_alloc ?_ _)); refine blk_put (cs := #[.int .i64 0, .int .i64 0, .int .i64 0, .int .i64 0]) ?_ 0 _ rfl; (with_reducible repeat (first | refine blk_drewN ?_ _ | refine blk_drew ?_ | refine blk_alloc ?_ _)); exact BK155.out) Tryd.underlying32 rfl (by kernel_rfl)) rfl ?_
        exact ⟨by first | rfl | (simp [errW_none, errW_some] <;> rfl) | (simp [*, errW_none, errW_some] <;> rfl), by repeat (first | (with_reducible first | exact HB.out | apply below_alloc | apply pw_below_drewN | apply below_drew1 | refine below_set ?_ GE154.out | refine below_set ?_ GE155.out) | exact HB.out)⟩
      · replace c21 := Bool.eq_false_iff.mpr c21
        subst c21
        have H1 : (if 0 ≤ a1 then (if a1 < (l0_8.length : Int) then (if ((rd_T54 l0_8 a1).f1.f2) = 0 then (sample_At.j1 kj4 a2 a3 true a0_0 a0_1 a0_2 a0_3 a0_4 a0_5 a0_6 a0_7 l0_8 l0_9 l0_10 ((rd_T54 l0_8 a1).f0) ((rd_T54 l0_8 a1).f1.f0) ((rd_T54 l0_8 a1).f1.f1) ((rd_T54 l0_8 a1).f1.f2) ((rd_T54 l0_8 a1).f1.f3) ((rd_T54 l0_8 a1).f2.f0) ((rd_T54 l0_8 a1).f2.f1) ((rd_T54 l0_8 a1).f2.f2)) else (if a2 < 0 then (sample_At.j1 kj4 a2 a3 true a0_0 a0_1 a0_2 a0_3 a0_4 a0_5 a0_6 a0_7 l0_8 l0_9 l0_10 ((rd_T54 l0_8 a1).f0) ((rd_T54 l0_8 a1).f1.f0) ((rd_T54 l0_8 a1).f1.f1) ((rd_T54 l0_8 a1).f1.f2) ((rd_T54 l0_8 a1).f1.f3) ((rd_T54 l0_8 a1).f2.f0) ((rd_T54 l0_8 a1).f2.f1) ((rd_T54 l0_8 a1).f2.f2)) else (if a2 > (wrap64 (256 * (wrap64 (((rd_T54 l0_8 a1).f1.f2) - 1)))) then (sample_At.j1 kj4 a2 a3 true a0_0 a0_1 a0_2 a0_3 a0_4 a0_5 a0_6 a0_7 l0_8 l0_9 l0_10 ((rd_T54 l0_8 a1).f0) ((rd_T54 l0_8 a1).f1.f0) ((rd_T54 l0_8 a1).f1.f1) ((rd_T54 l0_8 a1).f1.f2) ((rd_T54 l0_8 a1).f1.f3) ((rd_T54 l0_8 a1).f2.f0) ((rd_T54 l0_8 a1).f2.f1) ((rd_T54 l0_8 a1).f2.f2)) else (if a3 < 0 then (sample_At.j1 kj4 a2 a3 true a0_0 a0_1 a0_2 a0_3 a0_4 a0_5 a0_6 a0_7 l0_8 l0_9 l0_10 ((rd_T54 l0_8 a1).f0) ((rd_T54 l0_8 a1).f1.f0) ((rd_T54 l0_8 a1).f1.f1) ((rd_T54 l0_8 a1).f1.f2) ((rd_T54 l0_8 a1).f1.f3) ((rd_T54 l0_8 a1).f2.f0) ((rd_T54 l0_8 a1).f2.f1) ((rd_T54 l0_8 a1).f2.f2)) else (sample_At.j1 kj4 a2 a3 (decide (a3 > (wrap64 (256 * (wrap64 (((rd_T54 l0_8 a1).f1.f3) - 1)))))) a0_0 a0_1 a0_2 a0_3 a0_4 a0_5 a0_6 a0_7 l0_8 l0_9 l0_10 ((rd_T54 l0_8 a1).f0) ((rd_T54 l0_8 a1).f1.f0) ((rd_T54 l0_8 a1).f1.f1) ((rd_T54 l0_8 a1).f1.f2) ((rd_T54 l0_8 a1).f1.f3) ((rd_T54 l0_8 a1).f2.f0) ((rd_T54 l0_8 a1).f2.f1) ((rd_T54 l0_8 a1).f2.f2)))))) else (none)) else (none)) = some (r1, r2, r3, r4, r5) := by rw [if_neg (show ¬ (false = true) by decide)] at H; exact H
        clear H
        have H := H1
        clear H1
        by_cases c24 : 0 ≤ a1
        · rw [if_pos c24] at H
          have c24b0 : decide (0 ≤ a1) = true := decide_eq_true c24
          clear c24
          by_cases c25 : a1 < (l0_8.length : Int)
          · rw [if_pos c25] at H
            have c25b0 : decide (a1 < (l0_8.length : Int)) = true := decide_eq_true c25
            clear c25
            have HC26 := Aside0.mk H
            clear H
            have hnb27 := NB154_155.out
            have hnc27 := NB155_154.out
            have hcz28_0 : wc.cell? ⟨gb154, 0, none⟩ = some (.int .i64 a0_0) := (blk_cell BK154.out 0).trans rfl
            have hcz28_1 : wc.cell? ⟨gb154, 1, none⟩ = some (.int .i64 a0_1) := (blk_cell BK154.out 1).trans rfl
            have hcz28_2 : wc.cell? ⟨gb154, 2, none⟩ = some (.int .i64 a0_2) := (blk_cell BK154.out 2).trans rfl
            have hcz28_3 : wc.cell? ⟨gb154, 3, none⟩ = some (.int .i64 a0_3) := (blk_cell BK154.out 3).trans rfl
            have hcz28_4 : wc.cell? ⟨gb154, 4, none⟩ = some (.int .i64 a0_4) := (blk_cell BK154.out 4).trans rfl
            have hcz28_5 : wc.cell? ⟨gb154, 5, none⟩ = some (.int .i64 a0_5) := (blk_cell BK154.out 5).trans rfl
            have hcz28_6 : wc.cell? ⟨gb154, 6, none⟩ = some (.int .i64 a0_6) := (blk_cell BK154.out 6).trans rfl
            have hcz28_7 : wc.cell? ⟨gb154, 7, none⟩ = some (.int .i64 a0_7) := (blk_cell BK154.out 7).trans rfl
            have hcz28_8 : wc.cell? ⟨gb154, 8, none⟩ = some (.slice A0_8 l0_8.length c0_8) := (blk_cell BK154.out 8).trans rfl
            have hcz28_9 : wc.cell? ⟨gb154, 9, none⟩ = some (.slice A0_9 l0_9.length c0_9) := (blk_cell BK154.out 9).trans rfl
            have hcz28_10 : wc.cell? ⟨gb154, 10, none⟩ = some (.slice A0_10 l0_10.length c0_10) := (blk_cell BK154.out 10).trans rfl
            have hfz28_0 := blk_frozen BK154.out 0
            have hfz28_1 := blk_frozen BK154.out 1
            have hfz28_2 := blk_frozen BK154.out 2
            have hfz28_3 := blk_frozen BK154.out 3
            have hfz28_4 := blk_frozen BK154.out 4
            have hfz28_5 := blk_frozen BK154.out 5
            have hfz28_6 := blk_frozen BK154.out 6
            have hfz28_7 := blk_frozen BK154.out 7
            have hfz28_8 := blk_frozen BK154.out 8
            have hfz28_9 := blk_frozen BK154.out 9
            have hfz28_10 := blk_frozen BK154.out 10
            have p157 : 0 ≤ (a1 : Int) := of_decide_eq_true (by first | (with_reducible assumption) | assumption)
            have q157 : a1 < (l0_8.length : Int) := of_decide_eq_true (by first | (with_reducible assumption) | assumption)
            obtain ⟨ad157, e157, hx157_0, hx157_1, hx157_2, hx157_3, hx157_4, hx157_5, hx157_6, hx157_7⟩ := at_T54 HR0_8.out a1 p157 q157
            cases e157
            replace hx157_0 := (HB.out.cell (World.block_lt_of_cell? w _ hx157_0)).trans hx157_0
            replace hx157_1 := (HB.out.cell (World.block_lt_of_cell? w _ hx157_1)).trans hx157_1
            replace hx157_2 := (HB.out.cell (World.block_lt_of_cell? w _ hx157_2)).trans hx157_2
            replace hx157_3 := (HB.out.cell (World.block_lt_of_cell? w _ hx157_3)).trans hx157_3
            replace hx157_4 := (HB.out.cell (World.block_lt_of_cell? w _ hx157_4)).trans hx157_4
            replace hx157_5 := (HB.out.cell (World.block_lt_of_cell? w _ hx157_5)).trans hx157_5
            replace hx157_6 := (HB.out.cell (World.block_lt_of_cell? w _ hx157_6)).trans hx157_6
            replace hx157_7 := (HB.out.cell (World.block_lt_of_cell? w _ hx157_7)).trans hx157_7
            replace p157 := eq_true p157
            replace q157 := eq_true q157
            go_upto_region 4 with (first | ((with_reducible refine gate_dst (N := 10) rfl ?_); refine box_event ?hg (N := 10) ?hd (cs := #[.int .i64 0, .int .i64 0, .int .i64 0, .int .i64 0, .int .i64 0, .int .i64 0, .int .i64 0, .int .i64 0]) (t := 54) ?hr ?_; (case hd => rfl); (case hg => rfl); (case hr => first | (go_simp; done) | (go_simp; rfl)); intro gb158 hg w29 hbox hb; have n0_ := Aside0.mk (blk_below (g := gb154) (o := .cells #[.int .i64 a0_0, .int .i64 a0_1, .int .i64 a0_2, .int .i64 a0_3, .int .i64 a0_4, .int .i64 a0_5, .int .i64 a0_6, .int .i64 a0_7, .slice (some ad157) l0_8.length c0_8, .slice A0_9 l0_9.length c0_9, .slice A0_10 l0_10.length c0_10] 28 (0, 0)) (by (with_reducible repeat (first | refine blk_drewN ?_ _ | refine blk_drew ?_ | refine blk_alloc ?_ _)); exact BK154.out) hb); have n1_ := Aside0.mk (blk_below (g := gb155) (o := .cells #[.int .i64 0, .int .i64 0, .int .i64 0, .int .i64 0] 32 (0, 0)) (by (with_reducible repeat (first | refine blk_drewN ?_ _ | refine blk_drew ?_ | refine blk_alloc ?_ _)); exact BK155.out) hb); have n2_ := Aside0.mk (below_step (by repeat (first | (with_reducible first | exact HB.out | apply below_alloc | apply pw_below_drewN | apply below_drew1 | refine below_set ?_ GE154.out | refine below_set ?_ GE155.out) | exact HB.out)) hb); have n3_ := Aside0.mk (hbox); have n4_ := Aside0.mk ((by rw [hg]; exact (below_size (by repeat (first | (with_reducible first | exact HB.out | apply below_alloc | apply pw_below_drewN | apply below_drew1 | refine below_set ?_ GE154.out | refine below_set ?_ GE155.out) | exact HB.out))) : w.heap.size ≤ gb158)); have n5_ := Aside0.mk ((by rw [hg]; exact (below_size (by repeat (first | (with_reducible first | exact HB.out | apply below_alloc | apply pw_below_drewN | apply below_drew1 | refine below_set ?_ GE154.out | refine below_set ?_ GE155.out) | exact HB.out))) : w.heap.size ≤ gb158)); have n6_ := Aside0.mk ((by rw [hg]; exact Nat.ne_of_lt (blk_lt (g := gb154) (o := .cells #[.int .i64 a0_0, .int .i64 a0_1, .int .i64 a0_2, .int .i64 a0_3, .int .i64 a0_4, .int .i64 a0_5, .int .i64 a0_6, .int .i64 a0_7, .slice (some ad157) l0_8.length c0_8, .slice A0_9 l0_9.length c0_9, .slice A0_10 l0_10.length c0_10] 28 (0, 0)) (by (with_reducible repeat (first | refine blk_drewN ?_ _ | refine blk_drew ?_ | refine blk_alloc ?_ _)); exact BK154.out)) : gb154 ≠ gb158)); have n7_ := Aside0.mk ((by rw [hg]; exact Nat.ne_of_gt (blk_lt (g := gb154) (o := .cells #[.int .i64 a0_0, .int .i64 a0_1, .int .i64 a0_2, .int .i64 a0_3, .int .i64 a0_4, .int .i64 a0_5, .int .i64 a0_6, .int .i64 a0_7, .slice (some ad157) l0_8.length c0_8, .slice A0_9 l0_9.length c0_9, .slice A0_10 l0_10.length c0_10] 28 (0, 0)) (by (with_reducible repeat (first | refine blk_drewN ?_ _ | refine blk_drew ?_ | refine blk_alloc ?_ _)); exact BK154.out)) : gb158 ≠ gb154)); have n8_ := Aside0.mk ((by rw [hg]; exact Nat.ne_of_lt (blk_lt (g := gb155) (o := .cells #[.int .i64 0, .int .i64 0, .int .i64 0, .int .i64 0] 32 (0, 0)) (by (with_reducible repeat (first | refine blk_drewN ?_ _ | refine blk_drew ?_ | refine blk_alloc ?_ _)); exact BK155.out)) : gb155 ≠ gb158)); have n9_ := Aside0.mk ((by rw [hg]; exact Nat.ne_of_gt (blk_lt (g := gb155) (o := .cells #[.int .i64 0, .int .i64 0, .int .i64 0, .int .i64 0] 32 (0, 0)) (by (with_reducible repeat (first | refine blk_drewN ?_ _ | refine blk_drew ?_ | refine blk_alloc ?_ _)); exact BK155.out)) : gb158 ≠ gb155)); clear BK154; clear BK155; clear HB; have BK154 := n0_; have BK155 := n1_; have HB := n2_; have BK158 := n3_; have GW158 := n4_; have GE158 := n5_; have NB154_158 := n6_; have NB158_154 := n7_; have NB155_158 := n8_; have NB158_155 := n9_; clear n0_ n1_ n2_ n3_ n4_ n5_ n6_ n7_ n8_ n9_; clear hb hbox hg; have hnb30 := NB158_154.out; have hnc30 := NB154_158.out; have hnb31 := NB158_155.out; have hnc31 := NB155_158.out; have hcz32_0 : w29.cell? ⟨gb158, 0, none⟩ = some (.int .i64 0) := (blk_cell BK158.out 0).trans rfl; have hcz32_1 : w29.cell? ⟨gb158, 1, none⟩ = some (.int .i64 0) := (blk_cell BK158.out 1).trans rfl; have hcz32_2 : w29.cell? ⟨gb158, 2, none⟩ = some (.int .i64 0) := (blk_cell BK158.out 2).trans rfl; have hcz32_3 : w29.cell? ⟨gb158, 3, none⟩ = some (.int .i64 0) := (blk_cell BK158.out 3).trans rfl; have hcz32_4 : w29.cell? ⟨gb158, 4, none⟩ = some (.int .i64 0) := (blk_cell BK158.out 4).trans rfl; have hcz32_5 : w29.cell? ⟨gb158, 5, none⟩ = some (.int .i64 0) := (blk_cell BK158.out 5).trans rfl; have hcz32_6 : w29.cell? ⟨gb158, 6, none⟩ = some (.int .i64 0) := (blk_cell BK158.out 6).trans rfl; have hcz32_7 : w29.cell? ⟨gb158, 7, none⟩ = some (.int .i64 0) := (blk_cell BK158.out 7).trans rfl; have hfz32_0 := blk_frozen BK158.out 0; have hfz32_1 := blk_frozen BK158.out 1; have hfz32_2 := blk_frozen BK158.out 2; have hfz32_3 := blk_frozen BK158.out 3; have hfz32_4 := blk_frozen BK158.out 4; have hfz32_5 := blk_frozen BK158.out 5; have hfz32_6 := blk_frozen BK158.out 6; have hfz32_7 := blk_frozen BK158.out 7))
            (try simp only [Act.put, List.setIfInBounds_toArray, List.set_cons_zero, List.set_cons_succ])
            go_cut [66] (fun v66 wc => ∃ (kq : Nat) (x66_25 : Bool), v66 = .bool x66_25 ∧ Aside0 (sample_At.j1 kq a2 a3 x66_25 a0_0 a0_1 a0_2 a0_3 a0_4 a0_5 a0_6 a0_7 l0_8 l0_9 l0_10 ((rd_T54 l0_8 a1).f0) ((rd_T54 l0_8 a1).f1.f0) ((rd_T54 l0_8 a1).f1.f1) ((rd_T54 l0_8 a1).f1.f2) ((rd_T54 l0_8 a1).f1.f3) ((rd_T54 l0_8 a1).f2.f0) ((rd_T54 l0_8 a1).f2.f1) ((rd_T54 l0_8 a1).f2.f2) = some (r1, r2, r3, r4, r5)) ∧ Aside0 (kq ≤ kj4) ∧ Aside0 (wc.heap[gb154]? = some (.cells #[.int .i64 a0_0, .int .i64 a0_1, .int .i64 a0_2, .int .i64 a0_3, .int .i64 a0_4, .int .i64 a0_5, .int .i64 a0_6, .int .i64 a0_7, (.slice (some ad157) l0_8.length c0_8), (.slice A0_9 l0_9.length c0_9), (.slice A0_10 l0_10.length c0_10)] 28 (0, 0))) ∧ Aside0 (wc.heap[gb155]? = some (.cells #[.int .i64 0, .int .i64 0, .int .i64 0, .int .i64 0] 32 (0, 0))) ∧ Aside0 (wc.heap[gb158]? = some (.cells #[.int .i64 ((rd_T54 l0_8 a1).f0), .int .i64 ((rd_T54 l0_8 a1).f1.f0), .int .i64 ((rd_T54 l0_8 a1).f1.f1), .int .i64 ((rd_T54 l0_8 a1).f1.f2), .int .i64 ((rd_T54 l0_8 a1).f1.f3), .int .i64 ((rd_T54 l0_8 a1).f2.f0), .int .i64 ((rd_T54 l0_8 a1).f2.f1), .int .i64 ((rd_T54 l0_8 a1).f2.f2)] 54 (0, 0))) ∧ Aside0 (Below w.heap.size w wc))
            case first =>
              have H := HC26.out
              clear HC26
              by_cases c33 : ((rd_T54 l0_8 a1).f1.f2) = 0
              · rw [if_pos c33] at H
                have c33b0 : (((rd_T54 l0_8 a1).f1.f2) == 0) = true := beq_iff_eq.mpr c33
                have c33b1 : (((rd_T54 l0_8 a1).f1.f2) != 0) = false := bne_eq_false_iff_eq.mpr c33
                clear c33
                (first | rw [c33b0] | (simp only [i64_w, i32_w]; rw [c33b0]) | skip)
                have H' := Aside0.mk H
                clear H
                have hnb34 := NB158_154.out
                have hnc34 := NB154_158.out
                have hnb35 := NB158_155.out
                have hnc35 := NB155_158.out
                have hcz36_0 : w29.cell? ⟨gb158, 0, none⟩ = some (.int .i64 0) := (blk_cell BK158.out 0).trans rfl
                have hcz36_1 : w29.cell? ⟨gb158, 1, none⟩ = some (.int .i64 0) := (blk_cell BK158.out 1).trans rfl
                have hcz36_2 : w29.cell? ⟨gb158, 2, none⟩ = some (.int .i64 0) := (blk_cell BK158.out 2).trans rfl
                have hcz36_3 : w29.cell? ⟨gb158, 3, none⟩ = some (.int .i64 0) := (blk_cell BK158.out 3).trans rfl
                have hcz36_4 : w29.cell? ⟨gb158, 4, none⟩ = some (.int .i64 0) := (blk_cell BK158.out 4).trans rfl
                have hcz36_5 : w29.cell? ⟨gb158, 5, none⟩ = some (.int .i64 0) := (blk_cell BK158.out 5).trans rfl
                have hcz36_6 : w29.cell? ⟨gb158, 6, none⟩ = some (.int .i64 0) := (blk_cell BK158.out 6).trans rfl
                have hcz36_7 : w29.cell? ⟨gb158, 7, none⟩ = some (.int .i64 0) := (blk_cell BK158.out 7).trans rfl
                have hfz36_0 := blk_frozen BK158.out 0
                have hfz36_1 := blk_frozen BK158.out 1
                have hfz36_2 := blk_frozen BK158.out 2
                have hfz36_3 := blk_frozen BK158.out 3
                have hfz36_4 := blk_frozen BK158.out 4
                have hfz36_5 := blk_frozen BK158.out 5
                have hfz36_6 := blk_frozen BK158.out 6
                have hfz36_7 := blk_frozen BK158.out 7
                go_wp2
                go_meet
                case rel => exact ⟨_, (true), (by first | rfl | (simp; done) | (simp [*]; done)), H', ⟨by have := HJ4.out; first | omega | exact Nat.le_refl _⟩, ⟨by (with_reducible repeat (first | refine blk_drewN ?_ _ | refine blk_drew ?_ | refine blk_alloc ?_ _)); refine blk_far ?_ NB154_158.out _; (with_reducible repeat (first | refine blk_drewN ?_ _ | refine blk_drew ?_ | refine blk_alloc ?_ _)); refine blk_far ?_ NB154_158.out _; (with_reducible repeat (first | refine blk_drewN ?_ _ | refine blk_drew ?_ | refine blk_alloc ?_ _)); refine blk_far ?_ NB154_158.out _; (with_reducible repeat (first | refine blk_drewN ?_ _ | refine blk_drew ?_ | refine blk_alloc ?_ _)); refine blk_far ?_ NB154_158.out _; (with_reducible repeat (first | refine blk_drewN ?_ _ | refine blk_drew ?_ | refine blk_alloc ?_ _)); refine blk_far ?_ NB154_158.out _; (with_reducible repeat (first | refine blk_drewN ?_ _ | refine blk_drew ?_ | refine blk_alloc ?_ _)); refine blk_far ?_ NB154_158.out _; (with_reducible repeat (first | refine blk_drewN ?_ _ | refine blk_drew ?_ | refine blk_alloc ?_ _)); refine blk_far ?_ NB154_158.out _; (with_reducible repeat (first | refine blk_drewN ?_ _ | refine blk_drew ?_ | refine blk_alloc ?_ _)); refine blk_far ?_ NB154_158.out _; (with_reducible repeat (first | refine blk_drewN ?_ _ | refine blk_drew ?_ | refine blk_alloc ?_ _)); exact BK154.out⟩, ⟨by (with_reducible repeat (first | refine blk_drewN ?_ _ | refine blk_drew ?_ | refine blk_alloc ?_ _)); refine blk_far ?_ NB155_158.out _; (with_reducible repeat (first | refine blk_drewN ?_ _ | refine blk_drew ?_ | refine blk_alloc ?_ _)); refine blk_far ?_ NB155_158.out _; (with_reducible repeat (first | refine blk_drewN ?_ _ | refine blk_drew ?_ | refine blk_alloc ?_ _)); refine blk_far ?_ NB155_158.out _; (with_reducible repeat (first | refine blk_drewN ?_ _ | refine blk_drew ?_ | refine blk_alloc ?_ _)); refine blk_far ?_ NB155_158.out _; (with_reducible repeat (first | refine blk_drewN ?_ _ | refine blk_drew ?_ | refine blk_alloc ?_ _)); refine blk_far ?_ NB155_158.out _; (with_reducible repeat (first | refine blk_drewN ?_ _ | refine blk_drew ?_ | refine blk_alloc ?_ _)); refine blk_far ?_ NB155_158.out _; (with_reducible repeat (first | refine blk_drewN ?_ _ | refine blk_drew ?_ | refine blk_alloc ?_ _)); refine blk_far ?_ NB155_158.out _; (with_reducible repeat (first | refine blk_drewN ?_ _ | refine blk_drew ?_ | refine blk_alloc ?_ _)); refine blk_far ?_ NB155_158.out _; (with_reducible repeat (first | refine blk_drewN ?_ _ | refine blk_drew ?_ | refine blk_alloc ?_ _)); exact BK155.out⟩, ⟨by (with_reducible repeat (first | refine blk_drewN ?_ _ | refine blk_drew ?_ | refine blk_alloc ?_ _)); refine blk_put (cs := #[.int .i64 ((rd_T54 l0_8 a1).f0), .int .i64 ((rd_T54 l0_8 a1).f1.f0), .int .i64 ((rd_T54 l0_8 a1).f1.f1), .int .i64 ((rd_T54 l0_8 a1).f1.f2), .int .i64 ((rd_T54 l0_8 a1).f1.f3), .int .i64 ((rd_T54 l0_8 a1).f2.f0), .int .i64 ((rd_T54 l0_8 a1).f2.f1), .int .i64 0]) ?_ 7 _ rfl; (with_reducible repeat (first | refine blk_drewN ?_ _ | refine blk_drew ?_ | refine blk_alloc ?_ _)); refine blk_put (cs := #[.int .i64 ((rd_T54 l0_8 a1).f0), .int .i64 ((rd_T54 l0_8 a1).f1.f0), .int .i64 ((rd_T54 l0_8 a1).f1.f1), .int .i64 ((rd_T54 l0_8 a1).f1.f2), .int .i64 ((rd_T54 l0_8 a1).f1.f3), .int .i64 ((rd_T54 l0_8 a1).f2.f0), .int .i64 0, .int .i64 0]) ?_ 6 _ rfl; (with_reducible repeat (first | refine blk_drewN ?_ _ | refine blk_drew ?_ | refine blk_alloc ?_ _)); refine blk_put (cs := #[.int .i64 ((rd_T54 l0_8 a1).f0), .int .i64 ((rd_T54 l0_8 a1).f1.f0), .int .i64 ((rd_T54 l0_8 a1).f1.f1), .int .i64 ((rd_T54 l0_8 a1).f1.f2), .int .i64 ((rd_T54 l0_8 a1).f1.f3), .int .i64 0, .int .i64 0, .int .i64 0]) ?_ 5 _ rfl; (with_reducible repeat (first | refine blk_drewN ?_ _ | refine blk_drew ?_ | refine blk_alloc ?_ _)); refine blk_put (cs := #[.int .i64 ((rd_T54 l0_8 a1).f0), .int .i64 ((rd_T54 l0_8 a1).f1.f0), .int .i64 ((rd_T54 l0_8 a1).f1.f1), .int .i64 ((rd_T54 l0_8 a1).f1.f2), .int .i64 0, .int .i64 0, .int .i64 0, .int .i64 0]) ?_ 4 _ rfl; (with_reducible repeat (first | refine blk_drewN ?_ _ | refine blk_drew ?_ | refine blk_alloc ?_ _)); refine blk_put (cs := #[.int .i64 ((rd_T54 l0_8 a1).f0), .int .i64 ((rd_T54 l0_8 a1).f1.f0), .int .i64 ((rd_T54 l0_8 a1).f1.f1), .int .i64 0, .int .i64 0, .int .i64 0, .int .i64 0, .int .i64 0]) ?_ 3 _ rfl; (with_reducible repeat (first | refine blk_drewN ?_ _ | refine blk_drew ?_ | refine blk_alloc ?_ _)); refine blk_put (cs := #[.int .i64 ((rd_T54 l0_8 a1).f0), .int .i64 ((rd_T54 l0_8 a1).f1.f0), .int .i64 0, .int .i64 0, .int .i64 0, .int .i64 0, .int .i64 0, .int .i64 0]) ?_ 2 _ rfl; (with_reducible repeat (first | refine blk_drewN ?_ _ | refine blk_drew ?_ | refine blk_alloc ?_ _)); refine blk_put (cs := #[.int .i64 ((rd_T54 l0_8 a1).f0), .int .i64 0, .int .i64 0, .int .i64 0, .int .i64 0, .int .i64 0, .int .i64 0, .int .i64 0]) ?_ 1 _ rfl; (with_reducible repeat (first | refine blk_drewN ?_ _ | refine blk_drew ?_ | refine blk_alloc ?_ _)); refine blk_put (cs := #[.int .i64 0, .int .i64 0, .int .i64 0, .int .i64 0, .int .i64 0, .int .i64 0, .int .i64 0, .int .i64 0]) ?_ 0 _ rfl; (with_reducible repeat (first | refine blk_drewN ?_ _ | refine blk_drew ?_ | refine blk_alloc ?_ _)); exact BK158.out⟩, ⟨by repeat (first | (with_reducible first | exact HB.out | apply below_alloc | apply pw_below_drewN | apply below_drew1 | refine below_set ?_ GE154.out | refine below_set ?_ GE155.out | refine below_set ?_ GE158.out) | exact HB.out)⟩⟩
              · rw [if_neg c33] at H
                have c33b0 : (((rd_T54 l0_8 a1).f1.f2) == 0) = false := beq_eq_false_iff_ne.mpr c33
                have c33b1 : (((rd_T54 l0_8 a1).f1.f2) != 0) = true := bne_iff_ne.mpr c33
                (first | rw [c33b0] | (simp only [i64_w, i32_w]; rw [c33b0]) | skip)
                by_cases c37 : a2 < 0
                · rw [if_pos c37] at H
                  have c37b0 : decide (a2 < 0) = true := decide_eq_true c37
                  clear c37
                  have H' := Aside0.mk H
                  clear H
                  have hnb38 := NB158_154.out
                  have hnc38 := NB154_158.out
                  have hnb39 := NB158_155.out
                  have hnc39 := NB155_158.out
                  have hcz40_0 : w29.cell? ⟨gb158, 0, none⟩ = some (.int .i64 0) := (blk_cell BK158.out 0).trans rfl
                  have hcz40_1 : w29.cell? ⟨gb158, 1, none⟩ = some (.int .i64 0) := (blk_cell BK158.out 1).trans rfl
                  have hcz40_2 : w29.cell? ⟨gb158, 2, none⟩ = some (.int .i64 0) := (blk_cell BK158.out 2).trans rfl
                  have hcz40_3 : w29.cell? ⟨gb158, 3, none⟩ = some (.int .i64 0) := (blk_cell BK158.out 3).trans rfl
                  have hcz40_4 : w29.cell? ⟨gb158, 4, none⟩ = some (.int .i64 0) := (blk_cell BK158.out 4).trans rfl
                  have hcz40_5 : w29.cell? ⟨gb158, 5, none⟩ = some (.int .i64 0) := (blk_cell BK158.out 5).trans rfl
                  have hcz40_6 : w29.cell? ⟨gb158, 6, none⟩ = some (.int .i64 0) := (blk_cell BK158.out 6).trans rfl
                  have hcz40_7 : w29.cell? ⟨gb158, 7, none⟩ = some (.int .i64 0) := (blk_cell BK158.out 7).trans rfl
                  have hfz40_0 := blk_frozen BK158.out 0
                  have hfz40_1 := blk_frozen BK158.out 1
                  have hfz40_2 := blk_frozen BK158.out 2
                  have hfz40_3 := blk_frozen BK158.out 3
                  have hfz40_4 := blk_frozen BK158.out 4
                  have hfz40_5 := blk_frozen BK158.out 5
                  have hfz40_6 := blk_frozen BK158.out 6
                  have hfz40_7 := blk_frozen BK158.out 7
                  go_wp2
                  go_meet
                  case rel => exact ⟨_, (true), (by first | rfl | (simp; done) | (simp [*]; done)), H', ⟨by have := HJ4.out; first | omega | exact Nat.le_refl _⟩, ⟨by (with_reducible repeat (first | refine blk_drewN ?_ _ | refine blk_drew ?_ | refine blk_alloc ?_ _)); refine blk_far ?_ NB154_158.out _; (with_reducible repeat (first | refine blk_drewN ?_ _ | refine blk_drew ?_ | refine blk_alloc ?_ _)); refine blk_far ?_ NB154_158.out _; (with_reducible repeat (first | refine blk_drewN ?_ _ | refine blk_drew ?_ | refine blk_alloc ?_ _)); refine blk_far ?_ NB154_158.out _; (with_reducible repeat (first | refine blk_drewN ?_ _ | refine blk_drew ?_ | refine blk_alloc ?_ _)); refine blk_far ?_ NB154_158.out _; (with_reducible repeat (first | refine blk_drewN ?_ _ | refine blk_drew ?_ | refine blk_alloc ?_ _)); refine blk_far ?_ NB154_158.out _; (with_reducible repeat (first | refine blk_drewN ?_ _ | refine blk_drew ?_ | refine blk_alloc ?_ _)); refine blk_far ?_ NB154_158.out _; (with_reducible repeat (first | refine blk_drewN ?_ _ | refine blk_drew ?_ | refine blk_alloc ?_ _)); refine blk_far ?_ NB154_158.out _; (with_reducible repeat (first | refine blk_drewN ?_ _ | refine blk_drew ?_ | refine blk_alloc ?_ _)); refine blk_far ?_ NB154_158.out _; (with_reducible repeat (first | refine blk_drewN ?_ _ | refine blk_drew ?_ | refine blk_alloc ?_ _)); exact BK154.out⟩, ⟨by (with_reducible repeat (first | refine blk_drewN ?_ _ | refine blk_drew ?_ | refine blk_alloc ?_ _)); refine blk_far ?_ NB155_158.out _; (with_reducible repeat (first | refine blk_drewN ?_ _ | refine blk_drew ?_ | refine blk_alloc ?_ _)); refine blk_far ?_ NB155_158.out _; (with_reducible repeat (first | refine blk_drewN ?_ _ | refine blk_drew ?_ | refine blk_alloc ?_ _)); refine blk_far ?_ NB155_158.out _; (with_reducible repeat (first | refine blk_drewN ?_ _ | refine blk_drew ?_ | refine blk_alloc ?_ _)); refine blk_far ?_ NB155_158.out _; (with_reducible repeat (first | refine blk_drewN ?_ _ | refine blk_drew ?_ | refine blk_alloc ?_ _)); refine blk_far ?_ NB155_158.out _; (with_reducible repeat (first | refine blk_drewN ?_ _ | refine blk_drew ?_ | refine blk_alloc ?_ _)); refine blk_far ?_ NB155_158.out _; (with_reducible repeat (first | refine blk_drewN ?_ _ | refine blk_drew ?_ | refine blk_alloc ?_ _)); refine blk_far ?_ NB155_158.out _; (with_reducible repeat (first | refine blk_drewN ?_ _ | refine blk_drew ?_ | refine blk_alloc ?_ _)); refine blk_far ?_ NB155_158.out _; (with_reducible repeat (first | refine blk_drewN ?_ _ | refine blk_drew ?_ | refine blk_alloc ?_ _)); exact BK155.out⟩, ⟨by (with_reducible repeat (first | refine blk_drewN ?_ _ | refine blk_drew ?_ | refine blk_alloc ?_ _)); refine blk_put (cs := #[.int .i64 ((rd_T54 l0_8 a1).f0), .int .i64 ((rd_T54 l0_8 a1).f1.f0), .int .i64 ((rd_T54 l0_8 a1).f1.f1), .int .i64 ((rd_T54 l0_8 a1).f1.f2), .int .i64 ((rd_T54 l0_8 a1).f1.f3), .int .i64 ((rd_T54 l0_8 a1).f2.f0), .int .i64 ((rd_T54 l0_8 a1).f2.f1), .int .i64 0]) ?_ 7 _ rfl; (with_reducible repeat (first | refine blk_drewN ?_ _ | refine blk_drew ?_ | refine blk_alloc ?_ _)); refine blk_put (cs := #[.int .i64 ((rd_T54 l0_8 a1).f0), .int .i64 ((rd_T54 l0_8 a1).f1.f0), .int .i64 ((rd_T54 l0_8 a1).f1.f1), .int .i64 ((rd_T54 l0_8 a1).f1.f2), .int .i64 ((rd_T54 l0_8 a1).f1.f3), .int .i64 ((rd_T54 l0_8 a1).f2.f0), .int .i64 0, .int .i64 0]) ?_ 6 _ rfl; (with_reducible repeat (first | refine blk_drewN ?_ _ | refine blk_drew ?_ | refine blk_alloc ?_ _)); refine blk_put (cs := #[.int .i64 ((rd_T54 l0_8 a1).f0), .int .i64 ((rd_T54 l0_8 a1).f1.f0), .int .i64 ((rd_T54 l0_8 a1).f1.f1), .int .i64 ((rd_T54 l0_8 a1).f1.f2), .int .i64 ((rd_T54 l0_8 a1).f1.f3), .int .i64 0, .int .i64 0, .int .i64 0]) ?_ 5 _ rfl; (with_reducible repeat (first | refine blk_drewN ?_ _ | refine blk_drew ?_ | refine blk_alloc ?_ _)); refine blk_put (cs := #[.int .i64 ((rd_T54 l0_8 a1).f0), .int .i64 ((rd_T54 l0_8 a1).f1.f0), .int .i64 ((rd_T54 l0_8 a1).f1.f1), .int .i64 ((rd_T54 l0_8 a1).f1.f2), .int .i64 0, .int .i64 0, .int .i64 0, .int .i64 0]) ?_ 4 _ rfl; (with_reducible repeat (first | refine blk_drewN ?_ _ | refine blk_drew ?_ | refine blk_alloc ?_ _)); refine blk_put (cs := #[.int .i64 ((rd_T54 l0_8 a1).f0), .int .i64 ((rd_T54 l0_8 a1).f1.f0), .int .i64 ((rd_T54 l0_8 a1).f1.f1), .int .i64 0, .int .i64 0, .int .i64 0, .int .i64 0, .int .i64 0]) ?_ 3 _ rfl; (with_reducible repeat (first | refine blk_drewN ?_ _ | refine blk_drew ?_ | refine blk_alloc ?_ _)); refine blk_put (cs := #[.int .i64 ((rd_T54 l0_8 a1).f0), .int .i64 ((rd_T54 l0_8 a1).f1.f0), .int .i64 0, .int .i64 0, .int .i64 0, .int .i64 0, .int .i64 0, .int .i64 0]) ?_ 2 _ rfl; (with_reducible repeat (first | refine blk_drewN ?_ _ | refine blk_drew ?_ | refine blk_alloc ?_ _)); refine blk_put (cs := #[.int .i64 ((rd_T54 l0_8 a1).f0), .int .i64 0, .int .i64 0, .int .i64 0, .int .i64 0, .int .i64 0, .int .i64 0, .int .i64 0]) ?_ 1 _ rfl; (with_reducible repeat (first | refine blk_drewN ?_ _ | refine blk_drew ?_ | refine blk_alloc ?_ _)); refine blk_put (cs := #[.int .i64 0, .int .i64 0, .int .i64 0, .int .i64 0, .int .i64 0, .int .i64 0, .int .i64 0, .int .i64 0]) ?_ 0 _ rfl; (with_reducible repeat (first | refine blk_drewN ?_ _ | refine blk_drew ?_ | refine blk_alloc ?_ _)); exact BK158.out⟩, ⟨by repeat (first | (with_reducible first | exact HB.out | apply below_alloc | apply pw_below_drewN | apply below_drew1 | refine below_set ?_ GE154.out | refine below_set ?_ GE155.out | refine below_set ?_ GE158.out) | exact HB.out)⟩⟩
                · rw [if_neg c37] at H
                  have c37b0 : decide (a2 < 0) = false := decide_eq_false c37
                  clear c37
                  by_cases c41 : a2 > (wrap64 (256 * (wrap64 (((rd_T54 l0_8 a1).f1.f2) - 1))))
                  · rw [if_pos c41] at H
                    have c41b0 : decide ((wrap64 (256 * (wrap64 (((rd_T54 l0_8 a1).f1.f2) - 1)))) < a2) = true := decide_eq_true c41
                    clear c41
                    have H' := Aside0.mk H
                    clear H
                    have hnb42 := NB158_154.out
                    have hnc42 := NB154_158.out
                    have hnb43 := NB158_155.out
                    have hnc43 := NB155_158.out
                    have hcz44_0 : w29.cell? ⟨gb158, 0, none⟩ = some (.int .i64 0) := (blk_cell BK158.out 0).trans rfl
                    have hcz44_1 : w29.cell? ⟨gb158, 1, none⟩ = some (.int .i64 0) := (blk_cell BK158.out 1).trans rfl
                    have hcz44_2 : w29.cell? ⟨gb158, 2, none⟩ = some (.int .i64 0) := (blk_cell BK158.out 2).trans rfl
                    have hcz44_3 : w29.cell? ⟨gb158, 3, none⟩ = some (.int .i64 0) := (blk_cell BK158.out 3).trans rfl
                    have hcz44_4 : w29.cell? ⟨gb158, 4, none⟩ = some (.int .i64 0) := (blk_cell BK158.out 4).trans rfl
                    have hcz44_5 : w29.cell? ⟨gb158, 5, none⟩ = some (.int .i64 0) := (blk_cell BK158.out 5).trans rfl
                    have hcz44_6 : w29.cell? ⟨gb158, 6, none⟩ = some (.int .i64 0) := (blk_cell BK158.out 6).trans rfl
                    have hcz44_7 : w29.cell? ⟨gb158, 7, none⟩ = some (.int .i64 0) := (blk_cell BK158.out 7).trans rfl
                    have hfz44_0 := blk_frozen BK158.out 0
                    have hfz44_1 := blk_frozen BK158.out 1
                    have hfz44_2 := blk_frozen BK158.out 2
                    have hfz44_3 := blk_frozen BK158.out 3
                    have hfz44_4 := blk_frozen BK158.out 4
                    have hfz44_5 := blk_frozen BK158.out 5
                    have hfz44_6 := blk_frozen BK158.out 6
                    have hfz44_7 := blk_frozen BK158.out 7
                    go_wp2
                    go_meet
                    case rel => exact ⟨_, (true), (by first | rfl | (simp; done) | (simp [*]; done)), H', ⟨by have := HJ4.out; first | omega | exact Nat.le_refl _⟩, ⟨by (with_reducible repeat (first | refine blk_drewN ?_ _ | refine blk_drew ?_ | refine blk_alloc ?_ _)); refine blk_far ?_ NB154_158.out _; (with_reducible repeat (first | refine blk_drewN ?_ _ | refine blk_drew ?_ | refine blk_alloc ?_ _)); refine blk_far ?_ NB154_158.out _; (with_reducible repeat (first | refine blk_drewN ?_ _ | refine blk_drew ?_ | refine blk_alloc ?_ _)); refine blk_far ?_ NB154_158.out _; (with_reducible repeat (first | refine blk_drewN ?_ _ | refine blk_drew ?_ | refine blk_alloc ?_ _)); refine blk_far ?_ NB154_158.out _; (with_reducible repeat (first | refine blk_drewN ?_ _ | refine blk_drew ?_ | refine blk_alloc ?_ _)); refine blk_far ?_ NB154_158.out _; (with_reducible repeat (first | refine blk_drewN ?_ _ | refine blk_drew ?_ | refine blk_alloc ?_ _)); refine blk_far ?_ NB154_158.out _; (with_reducible repeat (first | refine blk_drewN ?_ _ | refine blk_drew ?_ | refine blk_alloc ?_ _)); refine blk_far ?_ NB154_158.out _; (with_reducible repeat (first | refine blk_drewN ?_ _ | refine blk_drew ?_ | refine blk_alloc ?_ _)); refine blk_far ?_ NB154_158.out _; (with_reducible repeat (first | refine blk_drewN ?_ _ | refine blk_drew ?_ | refine blk_alloc ?_ _)); exact BK154.out⟩, ⟨by (with_reducible repeat (first | refine blk_drewN ?_ _ | refine blk_drew ?_ | refine blk_alloc ?_ _)); refine blk_far ?_ NB155_158.out _; (with_reducible repeat (first | refine blk_drewN ?_ _ | refine blk_drew ?_ | refine blk_alloc ?_ _)); refine blk_far ?_ NB155_158.out _; (with_reducible repeat (first | refine blk_drewN ?_ _ | refine blk_drew ?_ | refine blk_alloc ?_ _)); refine blk_far ?_ NB155_158.out _; (with_reducible repeat (first | refine blk_drewN ?_ _ | refine blk_drew ?_ | refine blk_alloc ?_ _)); refine blk_far ?_ NB155_158.out _; (with_reducible repeat (first | refine blk_drewN ?_ _ | refine blk_drew ?_ | refine blk_alloc ?_ _)); refine blk_far ?_ NB155_158.out _; (with_reducible repeat (first | refine blk_drewN ?_ _ | refine blk_drew ?_ | refine blk_alloc ?_ _)); refine blk_far ?_ NB155_158.out _; (with_reducible repeat (first | refine blk_drewN ?_ _ | refine blk_drew ?_ | refine blk_alloc ?_ _)); refine blk_far ?_ NB155_158.out _; (with_reducible repeat (first | refine blk_drewN ?_ _ | refine blk_drew ?_ | refine blk_alloc ?_ _)); refine blk_far ?_ NB155_158.out _; (with_reducible repeat (first | refine blk_drewN ?_ _ | refine blk_drew ?_ | refine blk_alloc ?_ _)); exact BK155.out⟩, ⟨by (with_reducible repeat (first | refine blk_drewN ?_ _ | refine blk_drew ?_ | refine blk_alloc ?_ _)); refine blk_put (cs := #[.int .i64 ((rd_T54 l0_8 a1).f0), .int .i64 ((rd_T54 l0_8 a1).f1.f0), .int .i64 ((rd_T54 l0_8 a1).f1.f1), .int .i64 ((rd_T54 l0_8 a1).f1.f2), .int .i64 ((rd_T54 l0_8 a1).f1.f3), .int .i64 ((rd_T54 l0_8 a1).f2.f0), .int .i64 ((rd_T54 l0_8 a1).f2.f1), .int .i64 0]) ?_ 7 _ rfl; (with_reducible repeat (first | refine blk_drewN ?_ _ | refine blk_drew ?_ | refine blk_alloc ?_ _)); refine blk_put (cs := #[.int .i64 ((rd_T54 l0_8 a1).f0), .int .i64 ((rd_T54 l0_8 a1).f1.f0), .int .i64 ((rd_T54 l0_8 a1).f1.f1), .int .i64 ((rd_T54 l0_8 a1).f1.f2), .int .i64 ((rd_T54 l0_8 a1).f1.f3), .int .i64 ((rd_T54 l0_8 a1).f2.f0), .int .i64 0, .int .i64 0]) ?_ 6 _ rfl; (with_reducible repeat (first | refine blk_drewN ?_ _ | refine blk_drew ?_ | refine blk_alloc ?_ _)); refine blk_put (cs := #[.int .i64 ((rd_T54 l0_8 a1).f0), .int .i64 ((rd_T54 l0_8 a1).f1.f0), .int .i64 ((rd_T54 l0_8 a1).f1.f1), .int .i64 ((rd_T54 l0_8 a1).f1.f2), .int .i64 ((rd_T54 l0_8 a1).f1.f3), .int .i64 0, .int .i64 0, .int .i64 0]) ?_ 5 _ rfl; (with_reducible repeat (first | refine blk_drewN ?_ _ | refine blk_drew ?_ | refine blk_alloc ?_ _)); refine blk_put (cs := #[.int .i64 ((rd_T54 l0_8 a1).f0), .int .i64 ((rd_T54 l0_8 a1).f1.f0), .int .i64 ((rd_T54 l0_8 a1).f1.f1), .int .i64 ((rd_T54 l0_8 a1).f1.f2), .int .i64 0, .int .i64 0, .int .i64 0, .int .i64 0]) ?_ 4 _ rfl; (with_reducible repeat (first | refine blk_drewN ?_ _ | refine blk_drew ?_ | refine blk_alloc ?_ _)); refine blk_put (cs := #[.int .i64 ((rd_T54 l0_8 a1).f0), .int .i64 ((rd_T54 l0_8 a1).f1.f0), .int .i64 ((rd_T54 l0_8 a1).f1.f1), .int .i64 0, .int .i64 0, .int .i64 0, .int .i64 0, .int .i64 0]) ?_ 3 _ rfl; (with_reducible repeat (first | refine blk_drewN ?_ _ | refine blk_drew ?_ | refine blk_alloc ?_ _)); refine blk_put (cs := #[.int .i64 ((rd_T54 l0_8 a1).f0), .int .i64 ((rd_T54 l0_8 a1).f1.f0), .int .i64 0, .int .i64 0, .int .i64 0, .int .i64 0, .int .i64 0, .int .i64 0]) ?_ 2 _ rfl; (with_reducible repeat (first | refine blk_drewN ?_ _ | refine blk_drew ?_ | refine blk_alloc ?_ _)); refine blk_put (cs := #[.int .i64 ((rd_T54 l0_8 a1).f0), .int .i64 0, .int .i64 0, .int .i64 0, .int .i64 0, .int .i64 0, .int .i64 0, .int .i64 0]) ?_ 1 _ rfl; (with_reducible repeat (first | refine blk_drewN ?_ _ | refine blk_drew ?_ | refine blk_alloc ?_ _)); refine blk_put (cs := #[.int .i64 0, .int .i64 0, .int .i64 0, .int .i64 0, .int .i64 0, .int .i64 0, .int .i64 0, .int .i64 0]) ?_ 0 _ rfl; (with_reducible repeat (first | refine blk_drewN ?_ _ | refine blk_drew ?_ | refine blk_alloc ?_ _)); exact BK158.out⟩, ⟨by repeat (first | (with_reducible first | exact HB.out | apply below_alloc | apply pw_below_drewN | apply below_drew1 | refine below_set ?_ GE154.out | refine below_set ?_ GE155.out | refine below_set ?_ GE158.out) | exact HB.out)⟩⟩
                  · rw [if_neg c41] at H
                    have c41b0 : decide ((wrap64 (256 * (wrap64 (((rd_T54 l0_8 a1).f1.f2) - 1)))) < a2) = false := decide_eq_false c41
                    clear c41
                    by_cases c45 : a3 < 0
                    · rw [if_pos c45] at H
                      have c45b0 : decide (a3 < 0) = true := decide_eq_true c45
                      clear c45
                      have H' := Aside0.mk H
                      clear H
                      have hnb46 := NB158_154.out
                      have hnc46 := NB154_158.out
                      have hnb47 := NB158_155.out
                      have hnc47 := NB155_158.out
                      have hcz48_0 : w29.cell? ⟨gb158, 0, none⟩ = some (.int .i64 0) := (blk_cell BK158.out 0).trans rfl
                      have hcz48_1 : w29.cell? ⟨gb158, 1, none⟩ = some (.int .i64 0) := (blk_cell BK158.out 1).trans rfl
                      have hcz48_2 : w29.cell? ⟨gb158, 2, none⟩ = some (.int .i64 0) := (blk_cell BK158.out 2).trans rfl
                      have hcz48_3 : w29.cell? ⟨gb158, 3, none⟩ = some (.int .i64 0) := (blk_cell BK158.out 3).trans rfl
                      have hcz48_4 : w29.cell? ⟨gb158, 4, none⟩ = some (.int .i64 0) := (blk_cell BK158.out 4).trans rfl
                      have hcz48_5 : w29.cell? ⟨gb158, 5, none⟩ = some (.int .i64 0) := (blk_cell BK158.out 5).trans rfl
                      have hcz48_6 : w29.cell? ⟨gb158, 6, none⟩ = some (.int .i64 0) := (blk_cell BK158.out 6).trans rfl
                      have hcz48_7 : w29.cell? ⟨gb158, 7, none⟩ = some (.int .i64 0) := (blk_cell BK158.out 7).trans rfl
                      have hfz48_0 := blk_frozen BK158.out 0
                      have hfz48_1 := blk_frozen BK158.out 1
                      have hfz48_2 := blk_frozen BK158.out 2
                      have hfz48_3 := blk_frozen BK158.out 3
                      have hfz48_4 := blk_frozen BK158.out 4
                      have hfz48_5 := blk_frozen BK158.out 5
                      have hfz48_6 := blk_frozen BK158.out 6
                      have hfz48_7 := blk_frozen BK158.out 7
                      go_wp2
                      go_meet
                      case rel => exact ⟨_, (true), (by first | rfl | (simp; done) | (simp [*]; done)), H', ⟨by have := HJ4.out; first | omega | exact Nat.le_refl _⟩, ⟨by (with_reducible repeat (first | refine blk_drewN ?_ _ | refine blk_drew ?_ | refine blk_alloc ?_ _)); refine blk_far ?_ NB154_158.out _; (with_reducible repeat (first | refine blk_drewN ?_ _ | refine blk_drew ?_ | refine blk_alloc ?_ _)); refine blk_far ?_ NB154_158.out _; (with_reducible repeat (first | refine blk_drewN ?_ _ | refine blk_drew ?_ | refine blk_alloc ?_ _)); refine blk_far ?_ NB154_158.out _; (with_reducible repeat (first | refine blk_drewN ?_ _ | refine blk_drew ?_ | refine blk_alloc ?_ _)); refine blk_far ?_ NB154_158.out _; (with_reducible repeat (first | refine blk_drewN ?_ _ | refine blk_drew ?_ | refine blk_alloc ?_ _)); refine blk_far ?_ NB154_158.out _; (with_reducible repeat (first | refine blk_drewN ?_ _ | refine blk_drew ?_ | refine blk_alloc ?_ _)); refine blk_far ?_ NB154_158.out _; (with_reducible repeat (first | refine blk_drewN ?_ _ | refine blk_drew ?_ | refine blk_alloc ?_ _)); refine blk_far ?_ NB154_158.out _; (with_reducible repeat (first | refine blk_drewN ?_ _ | refine blk_drew ?_ | refine blk_alloc ?_ _)); refine blk_far ?_ NB154_158.out _; (with_reducible repeat (first | refine blk_drewN ?_ _ | refine blk_drew ?_ | refine blk_alloc ?_ _)); exact BK154.out⟩, ⟨by (with_reducible repeat (first | refine blk_drewN ?_ _ | refine blk_drew ?_ | refine blk_alloc ?_ _)); refine blk_far ?_ NB155_158.out _; (with_reducible repeat (first | refine blk_drewN ?_ _ | refine blk_drew ?_ | refine blk_alloc ?_ _)); refine blk_far ?_ NB155_158.out _; (with_reducible repeat (first | refine blk_drewN ?_ _ | refine blk_drew ?_ | refine blk_alloc ?_ _)); refine blk_far ?_ NB155_158.out _; (with_reducible repeat (first | refine blk_drewN ?_ _ | refine blk_drew ?_ | refine blk_alloc ?_ _)); refine blk_far ?_ NB155_158.out _; (with_reducible repeat (first | refine blk_drewN ?_ _ | refine blk_drew ?_ | refine blk_alloc ?_ _)); refine blk_far ?_ NB155_158.out _; (with_reducible repeat (first | refine blk_drewN ?_ _ | refine blk_drew ?_ | refine blk_alloc ?_ _)); refine blk_far ?_ NB155_158.out _; (with_reducible repeat (first | refine blk_drewN ?_ _ | refine blk_drew ?_ | refine blk_alloc ?_ _)); refine blk_far ?_ NB155_158.out _; (with_reducible repeat (first | refine blk_drewN ?_ _ | refine blk_drew ?_ | refine blk_alloc ?_ _)); refine blk_far ?_ NB155_158.out _; (with_reducible repeat (first | refine blk_drewN ?_ _ | refine blk_drew ?_ | refine blk_alloc ?_ _)); exact BK155.out⟩, ⟨by (with_reducible repeat (first | refine blk_drewN ?_ _ | refine blk_drew ?_ | refine blk_alloc ?_ _)); refine blk_put (cs := #[.int .i64 ((rd_T54 l0_8 a1).f0), .int .i64 ((rd_T54 l0_8 a1).f1.f0), .int .i64 ((rd_T54 l0_8 a1).f1.f1), .int .i64 ((rd_T54 l0_8 a1).f1.f2), .int .i64 ((rd_T54 l0_8 a1).f1.f3), .int .i64 ((rd_T54 l0_8 a1).f2.f0), .int .i64 ((rd_T54 l0_8 a1).f2.f1), .int .i64 0]) ?_ 7 _ rfl; (with_reducible repeat (first | refine blk_drewN ?_ _ | refine blk_drew ?_ | refine blk_alloc ?_ _)); refine blk_put (cs := #[.int .i64 ((rd_T54 l0_8 a1).f0), .int .i64 ((rd_T54 l0_8 a1).f1.f0), .int .i64 ((rd_T54 l0_8 a1).f1.f1), .int .i64 ((rd_T54 l0_8 a1).f1.f2), .int .i64 ((rd_T54 l0_8 a1).f1.f3), .int .i64 ((rd_T54 l0_8 a1).f2.f0), .int .i64 0, .int .i64 0]) ?_ 6 _ rfl; (with_reducible repeat (first | refine blk_drewN ?_ _ | refine blk_drew ?_ | refine blk_alloc ?_ _)); refine blk_put (cs := #[.int .i64 ((rd_T54 l0_8 a1).f0), .int .i64 ((rd_T54 l0_8 a1).f1.f0), .int .i64 ((rd_T54 l0_8 a1).f1.f1), .int .i64 ((rd_T54 l0_8 a1).f1.f2), .int .i64 ((rd_T54 l0_8 a1).f1.f3), .int .i64 0, .int .i64 0, .int .i64 0]) ?_ 5 _ rfl; (with_reducible repeat (first | refine blk_drewN ?_ _ | refine blk_drew ?_ | refine blk_alloc ?_ _)); refine blk_put (cs := #[.int .i64 ((rd_T54 l0_8 a1).f0), .int .i64 ((rd_T54 l0_8 a1).f1.f0), .int .i64 ((rd_T54 l0_8 a1).f1.f1), .int .i64 ((rd_T54 l0_8 a1).f1.f2), .int .i64 0, .int .i64 0, .int .i64 0, .int .i64 0]) ?_ 4 _ rfl; (with_reducible repeat (first | refine blk_drewN ?_ _ | refine blk_drew ?_ | refine blk_alloc ?_ _)); refine blk_put (cs := #[.int .i64 ((rd_T54 l0_8 a1).f0), .int .i64 ((rd_T54 l0_8 a1).f1.f0), .int .i64 ((rd_T54 l0_8 a1).f1.f1), .int .i64 0, .int .i64 0, .int .i64 0, .int .i64 0, .int .i64 0]) ?_ 3 _ rfl; (with_reducible repeat (first | refine blk_drewN ?_ _ | refine blk_drew ?_ | refine blk_alloc ?_ _)); refine blk_put (cs := #[.int .i64 ((rd_T54 l0_8 a1).f0), .int .i64 ((rd_T54 l0_8 a1).f1.f0), .int .i64 0, .int .i64 0, .int .i64 0, .int .i64 0, .int .i64 0, .int .i64 0]) ?_ 2 _ rfl; (with_reducible repeat (first | refine blk_drewN ?_ _ | refine blk_drew ?_ | refine blk_alloc ?_ _)); refine blk_put (cs := #[.int .i64 ((rd_T54 l0_8 a1).f0), .int .i64 0, .int .i64 0, .int .i64 0, .int .i64 0, .int .i64 0, .int .i64 0, .int .i64 0]) ?_ 1 _ rfl; (with_reducible repeat (first | refine blk_drewN ?_ _ | refine blk_drew ?_ | refine blk_alloc ?_ _)); refine blk_put (cs := #[.int .i64 0, .int .i64 0, .int .i64 0, .int .i64 0, .int .i64 0, .int .i64 0, .int .i64 0, .int .i64 0]) ?_ 0 _ rfl; (with_reducible repeat (first | refine blk_drewN ?_ _ | refine blk_drew ?_ | refine blk_alloc ?_ _)); exact BK158.out⟩, ⟨by repeat (first | (with_reducible first | exact HB.out | apply below_alloc | apply pw_below_drewN | apply below_drew1 | refine below_set ?_ GE154.out | refine below_set ?_ GE155.out | refine below_set ?_ GE158.out) | exact HB.out)⟩⟩
                    · rw [if_neg c45] at H
                      have c45b0 : decide (a3 < 0) = false := decide_eq_false c45
                      clear c45
                      have H' := Aside0.mk H
                      clear H
                      have hnb49 := NB158_154.out
                      have hnc49 := NB154_158.out
                      have hnb50 := NB158_155.out
                      have hnc50 := NB155_158.out
                      have hcz51_0 : w29.cell? ⟨gb158, 0, none⟩ = some (.int .i64 0) := (blk_cell BK158.out 0).trans rfl
                      have hcz51_1 : w29.cell? ⟨gb158, 1, none⟩ = some (.int .i64 0) := (blk_cell BK158.out 1).trans rfl
                      have hcz51_2 : w29.cell? ⟨gb158, 2, none⟩ = some (.int .i64 0) := (blk_cell BK158.out 2).trans rfl
                      have hcz51_3 : w29.cell? ⟨gb158, 3, none⟩ = some (.int .i64 0) := (blk_cell BK158.out 3).trans rfl
                      have hcz51_4 : w29.cell? ⟨gb158, 4, none⟩ = some (.int .i64 0) := (blk_cell BK158.out 4).trans rfl
                      have hcz51_5 : w29.cell? ⟨gb158, 5, none⟩ = some (.int .i64 0) := (blk_cell BK158.out 5).trans rfl
                      have hcz51_6 : w29.cell? ⟨gb158, 6, none⟩ = some (.int .i64 0) := (blk_cell BK158.out 6).trans rfl
                      have hcz51_7 : w29.cell? ⟨gb158, 7, none⟩ = some (.int .i64 0) := (blk_cell BK158.out 7).trans rfl
                      have hfz51_0 := blk_frozen BK158.out 0
                      have hfz51_1 := blk_frozen BK158.out 1
                      have hfz51_2 := blk_frozen BK158.out 2
                      have hfz51_3 := blk_frozen BK158.out 3
                      have hfz51_4 := blk_frozen BK158.out 4
                      have hfz51_5 := blk_frozen BK158.out 5
                      have hfz51_6 := blk_frozen BK158.out 6
                      have hfz51_7 := blk_frozen BK158.out 7
                      go_wp2
                      go_meet
                      case rel => exact ⟨_, (decide (a3 > (wrap64 (256 * (wrap64 (((rd_T54 l0_8 a1).f1.f3) - 1)))))), (by first | rfl | (simp; done) | (simp [*]; done)), H', ⟨by have := HJ4.out; first | omega | exact Nat.le_refl _⟩, ⟨by (with_reducible repeat (first | refine blk_drewN ?_ _ | refine blk_drew ?_ | refine blk_alloc ?_ _)); refine blk_far ?_ NB154_158.out _; (with_reducible repeat (first | refine blk_drewN ?_ _ | refine blk_drew ?_ | refine blk_alloc ?_ _)); refine blk_far ?_ NB154_158.out _; (with_reducible repeat (first | refine blk_drewN ?_ _ | refine blk_drew ?_ | refine blk_alloc ?_ _)); refine blk_far ?_ NB154_158.out _; (with_reducible repeat (first | refine blk_drewN ?_ _ | refine blk_drew ?_ | refine blk_alloc ?_ _)); refine blk_far ?_ NB154_158.out _; (with_reducible repeat (first | refine blk_drewN ?_ _ | refine blk_drew ?_ | refine blk_alloc ?_ _)); refine blk_far ?_ NB154_158.out _; (with_reducible repeat (first | refine blk_drewN ?_ _ | refine blk_drew ?_ | refine blk_alloc ?_ _)); refine blk_far ?_ NB154_158.out _; (with_reducible repeat (first | refine blk_drewN ?_ _ | refine blk_drew ?_ | refine blk_alloc ?_ _)); refine blk_far ?_ NB154_158.out _; (with_reducible repeat (first | refine blk_drewN ?_ _ | refine blk_drew ?_ | refine blk_alloc ?_ _)); refine blk_far ?_ NB154_158.out _; (with_reducible repeat (first | refine blk_drewN ?_ _ | refine blk_drew ?_ | refine blk_alloc ?_ _)); exact BK154.out⟩, ⟨by (with_reducible repeat (first | refine blk_drewN ?_ _ | refine blk_drew ?_ | refine blk_alloc ?_ _)); refine blk_far ?_ NB155_158.out _; (with_reducible repeat (first | refine blk_drewN ?_ _ | refine blk_drew ?_ | refine blk_alloc ?_ _)); refine blk_far ?_ NB155_158.out _; (with_reducible repeat (first | refine blk_drewN ?_ _ | refine blk_drew ?_ | refine blk_alloc ?_ _)); refine blk_far ?_ NB155_158.out _; (with_reducible repeat (first | refine blk_drewN ?_ _ | refine blk_drew ?_ | refine blk_alloc ?_ _)); refine blk_far ?_ NB155_158.out _; (with_reducible repeat (first | refine blk_drewN ?_ _ | refine blk_drew ?_ | refine blk_alloc ?_ _)); refine blk_far ?_ NB155_158.out _; (with_reducible repeat (first | refine blk_drewN ?_ _ | refine blk_drew ?_ | refine blk_alloc ?_ _)); refine blk_far ?_ NB155_158.out _; (with_reducible repeat (first | refine blk_drewN ?_ _ | refine blk_drew ?_ | refine blk_alloc ?_ _)); refine blk_far ?_ NB155_158.out _; (with_reducible repeat (first | refine blk_drewN ?_ _ | refine blk_drew ?_ | refine blk_alloc ?_ _)); refine blk_far ?_ NB155_158.out _; (with_reducible repeat (first | refine blk_drewN ?_ _ | refine blk_drew ?_ | refine blk_alloc ?_ _)); exact BK155.out⟩, ⟨by (with_reducible repeat (first | refine blk_drewN ?_ _ | refine blk_drew ?_ | refine blk_alloc ?_ _)); refine blk_put (cs := #[.int .i64 ((rd_T54 l0_8 a1).f0), .int .i64 ((rd_T54 l0_8 a1).f1.f0), .int .i64 ((rd_T54 l0_8 a1).f1.f1), .int .i64 ((rd_T54 l0_8 a1).f1.f2), .int .i64 ((rd_T54 l0_8 a1).f1.f3), .int .i64 ((rd_T54 l0_8 a1).f2.f0), .int .i64 ((rd_T54 l0_8 a1).f2.f1), .int .i64 0]) ?_ 7 _ rfl; (with_reducible repeat (first | refine blk_drewN ?_ _ | refine blk_drew ?_ | refine blk_alloc ?_ _)); refine blk_put (cs := #[.int .i64 ((rd_T54 l0_8 a1).f0), .int .i64 ((rd_T54 l0_8 a1).f1.f0), .int .i64 ((rd_T54 l0_8 a1).f1.f1), .int .i64 ((rd_T54 l0_8 a1).f1.f2), .int .i64 ((rd_T54 l0_8 a1).f1.f3), .int .i64 ((rd_T54 l0_8 a1).f2.f0), .int .i64 0, .int .i64 0]) ?_ 6 _ rfl; (with_reducible repeat (first | refine blk_drewN ?_ _ | refine blk_drew ?_ | refine blk_alloc ?_ _)); refine blk_put (cs := #[.int .i64 ((rd_T54 l0_8 a1).f0), .int .i64 ((rd_T54 l0_8 a1).f1.f0), .int .i64 ((rd_T54 l0_8 a1).f1.f1), .int .i64 ((rd_T54 l0_8 a1).f1.f2), .int .i64 ((rd_T54 l0_8 a1).f1.f3), .int .i64 0, .int .i64 0, .int .i64 0]) ?_ 5 _ rfl; (with_reducible repeat (first | refine blk_drewN ?_ _ | refine blk_drew ?_ | refine blk_alloc ?_ _)); refine blk_put (cs := #[.int .i64 ((rd_T54 l0_8 a1).f0), .int .i64 ((rd_T54 l0_8 a1).f1.f0), .int .i64 ((rd_T54 l0_8 a1).f1.f1), .int .i64 ((rd_T54 l0_8 a1).f1.f2), .int .i64 0, .int .i64 0, .int .i64 0, .int .i64 0]) ?_ 4 _ rfl; (with_reducible repeat (first | refine blk_drewN ?_ _ | refine blk_drew ?_ | refine blk_alloc ?_ _)); refine blk_put (cs := #[.int .i64 ((rd_T54 l0_8 a1).f0), .int .i64 ((rd_T54 l0_8 a1).f1.f0), .int .i64 ((rd_T54 l0_8 a1).f1.f1), .int .i64 0, .int .i64 0, .int .i64 0, .int .i64 0, .int .i64 0]) ?_ 3 _ rfl; (with_reducible repeat (first | refine blk_drewN ?_ _ | refine blk_drew ?_ | refine blk_alloc ?_ _)); refine blk_put (cs := #[.int .i64 ((rd_T54 l0_8 a1).f0), .int .i64 ((rd_T54 l0_8 a1).f1.f0), .int .i64 0, .int .i64 0, .int .i64 0, .int .i64 0, .int .i64 0, .int .i64 0]) ?_ 2 _ rfl; (with_reducible repeat (first | refine blk_drewN ?_ _ | refine blk_drew ?_ | refine blk_alloc ?_ _)); refine blk_put (cs := #[.int .i64 ((rd_T54 l0_8 a1).f0), .int .i64 0, .int .i64 0, .int .i64 0, .int .i64 0, .int .i64 0, .int .i64 0, .int .i64 0]) ?_ 1 _ rfl; (with_reducible repeat (first | refine blk_drewN ?_ _ | refine blk_drew ?_ | refine blk_alloc ?_ _)); refine blk_put (cs := #[.int .i64 0, .int .i64 0, .int .i64 0, .int .i64 0, .int .i64 0, .int .i64 0, .int .i64 0, .int .i64 0]) ?_ 0 _ rfl; (with_reducible repeat (first | refine blk_drewN ?_ _ | refine blk_drew ?_ | refine blk_alloc ?_ _)); exact BK158.out⟩, ⟨by repeat (first | (with_reducible first | exact HB.out | apply below_alloc | apply pw_below_drewN | apply below_drew1 | refine below_set ?_ GE154.out | refine below_set ?_ GE155.out | refine below_set ?_ GE158.out) | exact HB.out)⟩⟩
            case rest =>
              clear HC26
              try clear c1
              try clear p1
              try clear q1
              try clear hx1
              try clear c2
              try clear p2
              try clear c3
              try clear c4
              try clear c5
              try clear p6
              try clear c8
              try clear c9
              try clear c10
              try clear c10b0
              try clear c11
              try clear c14
              try clear p15
              try clear q15
              try clear hx15
              try clear c16
              try clear c18
              try clear c21
              try clear c22
              try clear c24
              try clear c24b0
              try clear c25
              try clear c25b0
              try clear c27
              try clear c30
              try clear c31
              try clear c33
              try clear c33b0
              try clear c33b1
              try clear c34
              try clear c35
              try clear c37
              try clear c37b0
              try clear c38
              try clear c39
              try clear c41
              try clear c41b0
              try clear c42
              try clear c43
              try clear c45
              try clear c45b0
              try clear c46
              try clear c47
              try clear c49
              try clear c50
              try clear hcz12_0
              try clear hcz12_1
              try clear hcz12_10
              try clear hcz12_2
              try clear hcz12_3
              try clear hcz12_4
              try clear hcz12_5
              try clear hcz12_6
              try clear hcz12_7
              try clear hcz12_8
              try clear hcz12_9
              try clear hcz15_0
              try clear hcz15_1
              try clear hcz15_10
              try clear hcz15_2
              try clear hcz15_3
              try clear hcz15_4
              try clear hcz15_5
              try clear hcz15_6
              try clear hcz15_7
              try clear hcz15_8
              try clear hcz15_9
              try clear hcz17_0
              try clear hcz17_1
              try clear hcz17_10
              try clear hcz17_2
              try clear hcz17_3
              try clear hcz17_4
              try clear hcz17_5
              try clear hcz17_6
              try clear hcz17_7
              try clear hcz17_8
              try clear hcz17_9
              try clear hcz19_0
              try clear hcz19_1
              try clear hcz19_10
              try clear hcz19_2
              try clear hcz19_3
              try clear hcz19_4
              try clear hcz19_5
              try clear hcz19_6
              try clear hcz19_7
              try clear hcz19_8
              try clear hcz19_9
              try clear hcz23_0
              try clear hcz23_1
              try clear hcz23_2
              try clear hcz23_3
              try clear hcz28_0
              try clear hcz28_1
              try clear hcz28_10
              try clear hcz28_2
              try clear hcz28_3
              try clear hcz28_4
              try clear hcz28_5
              try clear hcz28_6
              try clear hcz28_7
              try clear hcz28_8
              try clear hcz28_9
              try clear hcz32_0
              try clear hcz32_1
              try clear hcz32_2
              try clear hcz32_3
              try clear hcz32_4
              try clear hcz32_5
              try clear hcz32_6
              try clear hcz32_7
              try clear hcz36_0
              try clear hcz36_1
              try clear hcz36_2
              try clear hcz36_3
              try clear hcz36_4
              try clear hcz36_5
              try clear hcz36_6
              try clear hcz36_7
              try clear hcz40_0
              try clear hcz40_1
              try clear hcz40_2
              try clear hcz40_3
              try clear hcz40_4
              try clear hcz40_5
              try clear hcz40_6
              try clear hcz40_7
              try clear hcz44_0
              try clear hcz44_1
              try clear hcz44_2
              try clear hcz44_3
              try clear hcz44_4
              try clear hcz44_5
              try clear hcz44_6
              try clear hcz44_7
              try clear hcz48_0
              try clear hcz48_1
              try clear hcz48_2
              try clear hcz48_3
              try clear hcz48_4
              try clear hcz48_5
              try clear hcz48_6
              try clear hcz48_7
              try clear hcz51_0
              try clear hcz51_1
              try clear hcz51_2
              try clear hcz51_3
              try clear hcz51_4
              try clear hcz51_5
              try clear hcz51_6
              try clear hcz51_7
              try clear hfz12_0
              try clear hfz12_1
              try clear hfz12_10
              try clear hfz12_2
              try clear hfz12_3
              try clear hfz12_4
              try clear hfz12_5
              try clear hfz12_6
              try clear hfz12_7
              try clear hfz12_8
              try clear hfz12_9
              try clear hfz15_0
              try clear hfz15_1
              try clear hfz15_10
              try clear hfz15_2
              try clear hfz15_3
              try clear hfz15_4
              try clear hfz15_5
              try clear hfz15_6
              try clear hfz15_7
              try clear hfz15_8
              try clear hfz15_9
              try clear hfz17_0
              try clear hfz17_1
              try clear hfz17_10
              try clear hfz17_2
              try clear hfz17_3
              try clear hfz17_4
              try clear hfz17_5
              try clear hfz17_6
              try clear hfz17_7
              try clear hfz17_8
              try clear hfz17_9
              try clear hfz19_0
              try clear hfz19_1
              try clear hfz19_10
              try clear hfz19_2
              try clear hfz19_3
              try clear hfz19_4
              try clear hfz19_5
              try clear hfz19_6
              try clear hfz19_7
              try clear hfz19_8
              try clear hfz19_9
              try clear hfz23_0
              try clear hfz23_1
              try clear hfz23_2
              try clear hfz23_3
              try clear hfz28_0
              try clear hfz28_1
              try clear hfz28_10
              try clear hfz28_2
              try clear hfz28_3
              try clear hfz28_4
              try clear hfz28_5
              try clear hfz28_6
              try clear hfz28_7
              try clear hfz28_8
              try clear hfz28_9
              try clear hfz32_0
              try clear hfz32_1
              try clear hfz32_2
              try clear hfz32_3
              try clear hfz32_4
              try clear hfz32_5
              try clear hfz32_6
              try clear hfz32_7
              try clear hfz36_0
              try clear hfz36_1
              try clear hfz36_2
              try clear hfz36_3
              try clear hfz36_4
              try clear hfz36_5
              try clear hfz36_6
              try clear hfz36_7
              try clear hfz40_0
              try clear hfz40_1
              try clear hfz40_2
              try clear hfz40_3
              try clear hfz40_4
              try clear hfz40_5
              try clear hfz40_6
              try clear hfz40_7
              try clear hfz44_0
              try clear hfz44_1
              try clear hfz44_2
              try clear hfz44_3
              try clear hfz44_4
              try clear hfz44_5
              try clear hfz44_6
              try clear hfz44_7
              try clear hfz48_0
              try clear hfz48_1
              try clear hfz48_2
              try clear hfz48_3
              try clear hfz48_4
              try clear hfz48_5
              try clear hfz48_6
              try clear hfz48_7
              try clear hfz51_0
              try clear hfz51_1
              try clear hfz51_2
              try clear hfz51_3
              try clear hfz51_4
              try clear hfz51_5
              try clear hfz51_6
              try clear hfz51_7
              try clear hx157_0
              try clear hx157_1
              try clear hx157_2
              try clear hx157_3
              try clear hx157_4
              try clear hx157_5
              try clear hx157_6
              try clear hx157_7
              try clear p157
              try clear p2
              try clear q157
              obtain ⟨kq, x66_25, rfl, HA, HJ25, BK154, BK155, BK158, HB⟩ := hcut
              cases kq with
              | zero => exact absurd HA.out (by simp [sample_At.j1])
              | succ kj25 =>
                have H := HA.out
                clear HA
                simp only [sample_At.j1] at H
                by_cases c52 : x66_25 = true
                · subst c52
                  have H1 : (some (0, 0, 0, 0, 7)) = some (r1, r2, r3, r4, r5) := by rw [if_pos rfl] at H; exact H
                  clear H
                  have H := H1
                  clear H1
                  simp only [Option.some.injEq, Prod.mk.injEq] at H
                  obtain ⟨rfl, rfl, rfl, rfl, rfl⟩ := H
                  have hnb53 := NB155_154.out
                  have hnc53 := NB154_155.out
                  have hnb54 := NB155_158.out
                  have hnc54 := NB158_155.out
                  have hcz55_0 : wc.cell? ⟨gb155, 0, none⟩ = some (.int .i64 0) := (blk_cell BK155.out 0).trans rfl
                  have hcz55_1 : wc.cell? ⟨gb155, 1, none⟩ = some (.int .i64 0) := (blk_cell BK155.out 1).trans rfl
                  have hcz55_2 : wc.cell? ⟨gb155, 2, none⟩ = some (.int .i64 0) := (blk_cell BK155.out 2).trans rfl
                  have hcz55_3 : wc.cell? ⟨gb155, 3, none⟩ = some (.int .i64 0) := (blk_cell BK155.out 3).trans rfl
                  have hfz55_0 := blk_frozen BK155.out 0
                  have hfz55_1 := blk_frozen BK155.out 1
                  have hfz55_2 := blk_frozen BK155.out 2
                  have hfz55_3 := blk_frozen BK155.out 3
                  go_wp2
                  refine bodyPost_ret (results_ct rfl _ _ gb155 32 #[.int .i64 0, .int .i64 0, .int .i64 0, .int .i64 0] (0, 0) _ rfl (by (with_reducible repeat (first | refine blk_drewN ?_ _ | refine blk_drew ?_ | refine blk_alloc ?_ _)); refine blk_put (cs := #[.int .i64 0, .int .i64 0, .int .i64 0, .int .i64 0]) ?_ 3 _ rfl; (with_reducible repeat (first | refine blk_drewN ?_ _ | refine blk_drew ?_ | refine blk_alloc ?_ _)); refine blk_put (cs := #[.int .i64 0, .int .i64 0, .int .i64 0, .int .i64 0]) ?_ 2 _ rfl; (with_reducible repeat (first | refine blk_drewN ?_ _ | refine blk_drew ?_ | refine blk_alloc ?_ _)); refine blk_put (cs := #[.int .i64 0, .int .i64 0, .int .i64 0, .int .i64 0]) ?_ 1 _ rfl; (with_reducible repeat (first | refine blk_drewN ?_ _ | refine blk_drew ?_ | refine blk_alloc ?_ _)); refine blk_put (cs := #[.int .i64 0, .int .i64 0, .int .i64 0, .int .i64 0]) ?_ 0 _ rfl; (with_reducible repeat (first | refine blk_drewN ?_ _ | refine blk_drew ?_ | refine blk_alloc ?_ _)); exact BK155.out) Tryd.underlying32 rfl (by kernel_rfl)) rfl ?_
                  exact ⟨by first | rfl | (simp [errW_none, errW_some] <;> rfl) | (simp [*, errW_none, errW_some] <;> rfl), by repeat (first | (with_reducible first | exact HB.out | apply below_alloc | apply pw_below_drewN | apply below_drew1 | refine below_set ?_ GE154.out | refine below_set ?_ GE155.out | refine below_set ?_ GE158.out) | exact HB.out)⟩
                · replace c52 := Bool.eq_false_iff.mpr c52
                  subst c52
                  have H1 : (if 0 ≤ ((rd_T54 l0_8 a1).f2.f0) then (if ((rd_T54 l0_8 a1).f2.f0) < (l0_10.length : Int) then ((sample_part.f a2 ((rd_T54 l0_8 a1).f1.f2)).bind fun bt161 => ((sample_part.f a3 ((rd_T54 l0_8 a1).f1.f3)).bind fun bt163 => ((sample_sampler_row.f (rdOf ByteArray.empty l0_10 ((rd_T54 l0_8 a1).f2.f0)) a0_6 ((rd_T54 l0_8 a1).f2.f0) ((rd_T54 l0_8 a1).f2.f1) ((rd_T54 l0_8 a1).f2.f2) bt161.1 bt163.1 bt161.2).bind fun bt165 => (if bt163.2 = 0 then ((sample_mixed.f bt165.1 bt165.2.1 bt165.2.2.1 bt165.2.2.2 bt165.1 bt165.2.1 bt165.2.2.1 bt165.2.2.2 0).bind fun bt170 => (some (bt170.1, bt170.2.1, bt170.2.2.1, bt170.2.2.2, 0))) else ((sample_sampler_row.f (rdOf ByteArray.empty l0_10 ((rd_T54 l0_8 a1).f2.f0)) a0_6 ((rd_T54 l0_8 a1).f2.f0) ((rd_T54 l0_8 a1).f2.f1) ((rd_T54 l0_8 a1).f2.f2) bt161.1 (wrap64 (bt163.1 + 1)) bt161.2).bind fun bt174 => ((sample_mixed.f bt165.1 bt165.2.1 bt165.2.2.1 bt165.2.2.2 bt174.1 bt174.2.1 bt174.2.2.1 bt174.2.2.2 bt163.2).bind fun bt178 => (some (bt178.1, bt178.2.1, bt178.2.2.1, bt178.2.2.2, 0)))))))) else (none)) else (none)) = some (r1, r2, r3, r4, r5) := by rw [if_neg (show ¬ (false = true) by decide)] at H; exact H
                  clear H
                  have H := H1
                  clear H1
                  by_cases c56 : 0 ≤ ((rd_T54 l0_8 a1).f2.f0)
                  · rw [if_pos c56] at H
                    have c56b0 : decide (0 ≤ ((rd_T54 l0_8 a1).f2.f0)) = true := decide_eq_true c56
                    clear c56
                    by_cases c57 : ((rd_T54 l0_8 a1).f2.f0) < (l0_10.length : Int)
                    · rw [if_pos c57] at H
                      have c57b0 : decide (((rd_T54 l0_8 a1).f2.f0) < (l0_10.length : Int)) = true := decide_eq_true c57
                      clear c57
                      replace H := Option.bind_eq_some_iff.mp H
                      obtain ⟨⟨t161, t162⟩, A580, H⟩ := H
                      replace H : ((sample_part.f a3 ((rd_T54 l0_8 a1).f1.f3)).bind fun bt163 => ((sample_sampler_row.f (rdOf ByteArray.empty l0_10 ((rd_T54 l0_8 a1).f2.f0)) a0_6 ((rd_T54 l0_8 a1).f2.f0) ((rd_T54 l0_8 a1).f2.f1) ((rd_T54 l0_8 a1).f2.f2) t161 bt163.1 t162).bind fun bt165 => (if bt163.2 = 0 then ((sample_mixed.f bt165.1 bt165.2.1 bt165.2.2.1 bt165.2.2.2 bt165.1 bt165.2.1 bt165.2.2.1 bt165.2.2.2 0).bind fun bt170 => (some (bt170.1, bt170.2.1, bt170.2.2.1, bt170.2.2.2, 0))) else ((sample_sampler_row.f (rdOf ByteArray.empty l0_10 ((rd_T54 l0_8 a1).f2.f0)) a0_6 ((rd_T54 l0_8 a1).f2.f0) ((rd_T54 l0_8 a1).f2.f1) ((rd_T54 l0_8 a1).f2.f2) t161 (wrap64 (bt163.1 + 1)) t162).bind fun bt174 => ((sample_mixed.f bt165.1 bt165.2.1 bt165.2.2.1 bt165.2.2.2 bt174.1 bt174.2.1 bt174.2.2.1 bt174.2.2.2 bt163.2).bind fun bt178 => (some (bt178.1, bt178.2.1, bt178.2.2.1, bt178.2.2.2, 0))))))) = some (r1, r2, r3, r4, r5) := H
                      have A58 := Aside0.mk A580
                      clear A580
                      replace H := Option.bind_eq_some_iff.mp H
                      obtain ⟨⟨t163, t164⟩, A590, H⟩ := H
                      replace H : ((sample_sampler_row.f (rdOf ByteArray.empty l0_10 ((rd_T54 l0_8 a1).f2.f0)) a0_6 ((rd_T54 l0_8 a1).f2.f0) ((rd_T54 l0_8 a1).f2.f1) ((rd_T54 l0_8 a1).f2.f2) t161 t163 t162).bind fun bt165 => (if t164 = 0 then ((sample_mixed.f bt165.1 bt165.2.1 bt165.2.2.1 bt165.2.2.2 bt165.1 bt165.2.1 bt165.2.2.1 bt165.2.2.2 0).bind fun bt170 => (some (bt170.1, bt170.2.1, bt170.2.2.1, bt170.2.2.2, 0))) else ((sample_sampler_row.f (rdOf ByteArray.empty l0_10 ((rd_T54 l0_8 a1).f2.f0)) a0_6 ((rd_T54 l0_8 a1).f2.f0) ((rd_T54 l0_8 a1).f2.f1) ((rd_T54 l0_8 a1).f2.f2) t161 (wrap64 (t163 + 1)) t162).bind fun bt174 => ((sample_mixed.f bt165.1 bt165.2.1 bt165.2.2.1 bt165.2.2.2 bt174.1 bt174.2.1 bt174.2.2.1 bt174.2.2.2 t164).bind fun bt178 => (some (bt178.1, bt178.2.1, bt178.2.2.1, bt178.2.2.2, 0)))))) = some (r1, r2, r3, r4, r5) := H
                      have A59 := Aside0.mk A590
                      clear A590
                      replace H := Option.bind_eq_some_iff.mp H
                      obtain ⟨⟨t165, t166, t167, t168⟩, A600, H⟩ := H
                      replace H : (if t164 = 0 then ((sample_mixed.f t165 t166 t167 t168 t165 t166 t167 t168 0).bind fun bt170 => (some (bt170.1, bt170.2.1, bt170.2.2.1, bt170.2.2.2, 0))) else ((sample_sampler_row.f (rdOf ByteArray.empty l0_10 ((rd_T54 l0_8 a1).f2.f0)) a0_6 ((rd_T54 l0_8 a1).f2.f0) ((rd_T54 l0_8 a1).f2.f1) ((rd_T54 l0_8 a1).f2.f2) t161 (wrap64 (t163 + 1)) t162).bind fun bt174 => ((sample_mixed.f t165 t166 t167 t168 bt174.1 bt174.2.1 bt174.2.2.1 bt174.2.2.2 t164).bind fun bt178 => (some (bt178.1, bt178.2.1, bt178.2.2.1, bt178.2.2.2, 0))))) = some (r1, r2, r3, r4, r5) := H
                      have A60 := Aside0.mk A600
                      clear A600
                      by_cases c61 : t164 = 0
                      · rw [if_pos c61] at H
                        have c61b0 : (t164 == 0) = true := beq_iff_eq.mpr c61
                        have c61b1 : (t164 != 0) = false := bne_eq_false_iff_eq.mpr c61
                        clear c61
                        replace H := Option.bind_eq_some_iff.mp H
                        obtain ⟨⟨t170, t171, t172, t173⟩, A620, H⟩ := H
                        replace H : (some (t170, t171, t172, t173, 0)) = some (r1, r2, r3, r4, r5) := H
                        have A62 := Aside0.mk A620
                        clear A620
                        simp only [Option.some.injEq, Prod.mk.injEq] at H
                        obtain ⟨rfl, rfl, rfl, rfl, rfl⟩ := H
                        try go_wp2
                        have n0_ := Aside0.mk (blk_drew BK154.out)
                        have n1_ := Aside0.mk (blk_drew BK155.out)
                        have n2_ := Aside0.mk (blk_drew BK158.out)
                        have n3_ := Aside0.mk (below_drew1 HB.out)
                        clear BK154
                        clear BK155
                        clear BK158
                        clear HB
                        have BK154 := n0_
                        have BK155 := n1_
                        have BK158 := n2_
                        have HB := n3_
                        clear n0_ n1_ n2_ n3_
                        have p159 : 0 ≤ (((rd_T54 l0_8 a1).f2.f0) : Int) := of_decide_eq_true (by first | (with_reducible assumption) | assumption)
                        have q159 : ((rd_T54 l0_8 a1).f2.f0) < (l0_10.length : Int) := of_decide_eq_true (by first | (with_reducible assumption) | assumption)
                        obtain ⟨ad159, e159, hx159_0⟩ := Kd.at_string HR0_10.out ((rd_T54 l0_8 a1).f2.f0) p159 q159
                        have hw159_0 := hx159_0
                        cases e159
                        replace hx159_0 := (HB.out.cell (World.block_lt_of_cell? w _ hx159_0)).trans hx159_0
                        replace p159 := eq_true p159
                        replace q159 := eq_true q159
                        refine start_ (n := 15) (S := fun w' => w'.cell? ⟨gb154, 0, none⟩ = some (.int .i64 a0_0) ∧ w'.cell? ⟨gb154, 1, none⟩ = some (.int .i64 a0_1) ∧ w'.cell? ⟨gb154, 2, none⟩ = some (.int .i64 a0_2) ∧ w'.cell? ⟨gb154, 3, none⟩ = some (.int .i64 a0_3) ∧ w'.cell? ⟨gb154, 4, none⟩ = some (.int .i64 a0_4) ∧ w'.cell? ⟨gb154, 5, none⟩ = some (.int .i64 a0_5) ∧ w'.cell? ⟨gb154, 6, none⟩ = some (.int .i64 a0_6) ∧ w'.cell? ⟨gb154, 7, none⟩ = some (.int .i64 a0_7) ∧ w'.cell? ⟨gb154, 8, none⟩ = some (.slice (some ad157) l0_8.length c0_8) ∧ w'.cell? ⟨gb154, 9, none⟩ = some (.slice A0_9 l0_9.length c0_9) ∧ w'.cell? ⟨gb154, 10, none⟩ = some (.slice (some ad159) l0_10.length c0_10) ∧ w'.cell? ⟨gb158, 0, none⟩ = some (.int .i64 ((rd_T54 l0_8 a1).f0)) ∧ w'.cell? ⟨gb158, 1, none⟩ = some (.int .i64 ((rd_T54 l0_8 a1).f1.f0)) ∧ w'.cell? ⟨gb158, 2, none⟩ = some (.int .i64 ((rd_T54 l0_8 a1).f1.f1)) ∧ w'.cell? ⟨gb158, 3, none⟩ = some (.int .i64 ((rd_T54 l0_8 a1).f1.f2)) ∧ w'.cell? ⟨gb158, 4, none⟩ = some (.int .i64 ((rd_T54 l0_8 a1).f1.f3)) ∧ w'.cell? ⟨gb158, 5, none⟩ = some (.int .i64 ((rd_T54 l0_8 a1).f2.f0)) ∧ w'.cell? ⟨gb158, 6, none⟩ = some (.int .i64 ((rd_T54 l0_8 a1).f2.f1)) ∧ w'.cell? ⟨gb158, 7, none⟩ = some (.int .i64 ((rd_T54 l0_8 a1).f2.f2)) ∧ w'.cell? (ad159.add (((rd_T54 l0_8 a1).f2.f0)).toNat) = some (.string (rdOf ByteArray.empty l0_10 ((rd_T54 l0_8 a1).f2.f0)))) (ds := []) #[false, false, false, false, false, false, false, false, false, false, false, false, false, false, false] (by kernel_rfl) rfl rfl ⟨(blk_cell BK154.out 0).trans rfl, (blk_cell BK154.out 1).trans rfl, (blk_cell BK154.out 2).trans rfl, (blk_cell BK154.out 3).trans rfl, (blk_cell BK154.out 4).trans rfl, (blk_cell BK154.out 5).trans rfl, (blk_cell BK154.out 6).trans rfl, (blk_cell BK154.out 7).trans rfl, (blk_cell BK154.out 8).trans rfl, (blk_cell BK154.out 9).trans rfl, (blk_cell BK154.out 10).trans rfl, (blk_cell BK158.out 0).trans rfl, (blk_cell BK158.out 1).trans rfl, (blk_cell BK158.out 2).trans rfl, (blk_cell BK158.out 3).trans rfl, (blk_cell BK158.out 4).trans rfl, (blk_cell BK158.out 5).trans rfl, (blk_cell BK158.out 6).trans rfl, (blk_cell BK158.out 7).trans rfl, ((HB.out.cell (World.block_lt_of_cell? w _ hw159_0)).trans hw159_0)⟩ (fun hHeld => ?_); refine with_tabW sample_At.tab6 sample_At.bits6 (fun HT_ HW_ => ?_)
                        generalize wc.drew = w63 at BK154 BK155 BK158 HB hx159_0 hHeld ⊢
                        refine pure_ (i := 0) (N := some 68) (v := ?_) (a' := ?_) #[true, false, false, false, false, false, false, false, false, false, false, false, false, false, false] rfl rfl (any_of HT_.out (by kernel_rfl)) (fun _ _ _ h => h) (Or.inl ⟨by rfl, ?_⟩) ?_ ?_
                        rotate_left
                        · intro w'
                          go_simp
                          with_reducible rfl
                        rotate_left
                        · simp only [Act.put, List.setIfInBounds_toArray, List.set_cons_zero, List.set_cons_succ, i64_w, i32_w]
                          rfl
                        refine pure_ (i := 2) (N := some 70) (v := ?_) (a' := ?_) #[true, false, true, false, false, false, false, false, false, false, false, false, false, false, false] rfl rfl (any_of HT_.out (by kernel_rfl)) (fun _ _ _ h => h) (Or.inl ⟨by rfl, ?_⟩) ?_ ?_
                        rotate_left
                        · intro w'
                          go_simp
                          with_reducible rfl
                        rotate_left
                        · simp only [Act.put, List.setIfInBounds_toArray, List.set_cons_zero, List.set_cons_succ, i64_w, i32_w]
                          rfl
                        refine pure_ (i := 3) (N := some 71) (v := ?_) (a' := ?_) #[true, false, true, true, false, false, false, false, false, false, false, false, false, false, false] rfl rfl (any_of HT_.out (by kernel_rfl)) (fun _ _ _ h => h) (Or.inl ⟨by rfl, ?_⟩) ?_ ?_
                        rotate_left
                        · intro w'
                          go_simp
                          with_reducible rfl
                        rotate_left
                        · simp only [Act.put, List.setIfInBounds_toArray, List.set_cons_zero, List.set_cons_succ, i64_w, i32_w]
                          rfl
                        refine pure_ (i := 7) (N := some 75) (v := ?_) (a' := ?_) #[true, false, true, true, false, false, false, true, false, false, false, false, false, false, false] rfl rfl (any_of HT_.out (by kernel_rfl)) (fun _ _ _ h => h) (Or.inl ⟨by rfl, ?_⟩) ?_ ?_
                        rotate_left
                        · intro w'
                          go_simp
                          with_reducible rfl
                        rotate_left
                        · simp only [Act.put, List.setIfInBounds_toArray, List.set_cons_zero, List.set_cons_succ, i64_w, i32_w]
                          rfl
                        refine pure_ (i := 8) (N := some 76) (v := ?_) (a' := ?_) #[true, false, true, true, false, false, false, true, true, false, false, false, false, false, false] rfl rfl (any_of HT_.out (by kernel_rfl)) (fun _ _ _ h => h) (Or.inl ⟨by rfl, ?_⟩) ?_ ?_
                        rotate_left
                        · intro w'
                          go_simp
                          with_reducible rfl
                        rotate_left
                        · simp only [Act.put, List.setIfInBounds_toArray, List.set_cons_zero, List.set_cons_succ, i64_w, i32_w]
                          rfl
                        refine pure_ (i := 10) (N := some 78) (v := ?_) (a' := ?_) #[true, false, true, true, false, false, false, true, true, false, true, false, false, false, false] rfl rfl (any_of HT_.out (by kernel_rfl)) (fun _ _ _ h => h) (Or.inl ⟨by rfl, ?_⟩) ?_ ?_
                        rotate_left
                        · intro w'
                          go_simp
                          with_reducible rfl
                        rotate_left
                        · simp only [Act.put, List.setIfInBounds_toArray, List.set_cons_zero, List.set_cons_succ, i64_w, i32_w]
                          rfl
                        refine take_ (i := 1) (N := some 69) (v := ?_) (a' := ?_) #[true, true, true, true, false, false, false, true, true, false, true, false, false, false, false] rfl rfl (take_ofW HT_.out HW_.out (by kernel_rfl)) (fun _ _ _ h => h) (Or.inl ⟨by rfl, ?_⟩) hHeld ?_ ?_
                        rotate_left
                        · rintro w' ⟨s0, s1, s2, s3, s4, s5, s6, s7, s8, s9, s10, s11, s12, s13, s14, s15, s16, s17, s18, s19⟩
                          go_simp
                          with_reducible rfl
                        rotate_left
                        · simp only [Act.put, List.setIfInBounds_toArray, List.set_cons_zero, List.set_cons_succ, i64_w, i32_w]
                          rfl
                        refine take_ (i := 4) (N := some 72) (v := ?_) (a' := ?_) #[true, true, true, true, true, false, false, true, true, false, true, false, false, false, false] rfl rfl (take_ofW HT_.out HW_.out (by kernel_rfl)) (fun _ _ _ h => h) (Or.inl ⟨by rfl, ?_⟩) hHeld ?_ ?_
                        rotate_left
                        · rintro w' ⟨s0, s1, s2, s3, s4, s5, s6, s7, s8, s9, s10, s11, s12, s13, s14, s15, s16, s17, s18, s19⟩
                          go_simp
                          with_reducible rfl
                        rotate_left
                        · simp only [Act.put, List.setIfInBounds_toArray, List.set_cons_zero, List.set_cons_succ, i64_w, i32_w]
                          rfl
                        refine pure_ (i := 5) (N := some 73) (v := ?_) (a' := ?_) #[true, true, true, true, true, true, false, true, true, false, true, false, false, false, false] rfl rfl (any_of HT_.out (by kernel_rfl)) (fun _ _ _ h => h) (Or.inl ⟨by rfl, ?_⟩) ?_ ?_
                        rotate_left
                        · intro w'
                          go_simp
                          with_reducible rfl
                        rotate_left
                        · simp only [Act.put, List.setIfInBounds_toArray, List.set_cons_zero, List.set_cons_succ, i64_w, i32_w]
                          rfl
                        refine take_ (i := 6) (N := some 74) (v := ?_) (a' := ?_) #[true, true, true, true, true, true, true, true, true, false, true, false, false, false, false] rfl rfl (take_ofW HT_.out HW_.out (by kernel_rfl)) (fun _ _ _ h => h) (Or.inl ⟨by rfl, ?_⟩) hHeld ?_ ?_
                        rotate_left
                        · rintro w' ⟨s0, s1, s2, s3, s4, s5, s6, s7, s8, s9, s10, s11, s12, s13, s14, s15, s16, s17, s18, s19⟩
                          go_simp
                          with_reducible rfl
                        rotate_left
                        · simp only [Act.put, List.setIfInBounds_toArray, List.set_cons_zero, List.set_cons_succ, i64_w, i32_w]
                          rfl
                        refine take_ (i := 9) (N := some 77) (v := ?_) (a' := ?_) #[true, true, true, true, true, true, true, true, true, true, true, false, false, false, false] rfl rfl (take_ofW HT_.out HW_.out (by kernel_rfl)) (fun _ _ _ h => h) (Or.inl ⟨by rfl, ?_⟩) hHeld ?_ ?_
                        rotate_left
                        · rintro w' ⟨s0, s1, s2, s3, s4, s5, s6, s7, s8, s9, s10, s11, s12, s13, s14, s15, s16, s17, s18, s19⟩
                          go_simp
                          with_reducible rfl
                        rotate_left
                        · simp only [Act.put, List.setIfInBounds_toArray, List.set_cons_zero, List.set_cons_succ, i64_w, i32_w]
                          rfl
                        refine take_ (i := 11) (N := some 79) (v := ?_) (a' := ?_) #[true, true, true, true, true, true, true, true, true, true, true, true, false, false, false] rfl rfl (take_ofW HT_.out HW_.out (by kernel_rfl)) (fun _ _ _ h => h) (Or.inl ⟨by rfl, ?_⟩) hHeld ?_ ?_
                        rotate_left
                        · rintro w' ⟨s0, s1, s2, s3, s4, s5, s6, s7, s8, s9, s10, s11, s12, s13, s14, s15, s16, s17, s18, s19⟩
                          go_simp
                          with_reducible rfl
                        rotate_left
                        · simp only [Act.put, List.setIfInBounds_toArray, List.set_cons_zero, List.set_cons_succ, i64_w, i32_w]
                          rfl
                        refine pure_ (i := 12) (N := some 80) (v := ?_) (a' := ?_) #[true, true, true, true, true, true, true, true, true, true, true, true, true, false, false] rfl rfl (any_of HT_.out (by kernel_rfl)) (fun _ _ _ h => h) (Or.inl ⟨by rfl, ?_⟩) ?_ ?_
                        rotate_left
                        · intro w'
                          go_simp
                          with_reducible rfl
                        rotate_left
                        · simp only [Act.put, List.setIfInBounds_toArray, List.set_cons_zero, List.set_cons_succ, i64_w, i32_w]
                          rfl
                        refine one_ (i := 13) (N := some 11) #[true, true, true, true, true, true, true, true, true, true, true, true, true, true, false] rfl rfl (one_of HT_.out (by kernel_rfl)) (by decide) (fun K hK => ?_)
                        refine box_step ?hg (N := 11) ?hd (cs := #[.string (⟨#[]⟩ : ByteArray), .int .i64 0, .int .i64 0, .int .i64 0, .int .i64 0]) (t := 62) ?hr ?_; (case hd => rfl); (case hg => rfl); (case hr => first | (go_simp; done) | (go_simp; rfl))
                        intro gb160 hg w64 hbox hb
                        have n0_ := Aside0.mk (blk_below (g := gb154) (o := .cells #[.int .i64 a0_0, .int .i64 a0_1, .int .i64 a0_2, .int .i64 a0_3, .int .i64 a0_4, .int .i64 a0_5, .int .i64 a0_6, .int .i64 a0_7, .slice (some ad157) l0_8.length c0_8, .slice A0_9 l0_9.length c0_9, .slice (some ad159) l0_10.length c0_10] 28 (0, 0)) (by (with_reducible repeat (first | refine blk_drewN ?_ _ | refine blk_drew ?_ | refine blk_alloc ?_ _)); exact BK154.out) hb)
                        have n1_ := Aside0.mk (blk_below (g := gb155) (o := .cells #[.int .i64 0, .int .i64 0, .int .i64 0, .int .i64 0] 32 (0, 0)) (by (with_reducible repeat (first | refine blk_drewN ?_ _ | refine blk_drew ?_ | refine blk_alloc ?_ _)); exact BK155.out) hb)
                        have n2_ := Aside0.mk (blk_below (g := gb158) (o := .cells #[.int .i64 ((rd_T54 l0_8 a1).f0), .int .i64 ((rd_T54 l0_8 a1).f1.f0), .int .i64 ((rd_T54 l0_8 a1).f1.f1), .int .i64 ((rd_T54 l0_8 a1).f1.f2), .int .i64 ((rd_T54 l0_8 a1).f1.f3), .int .i64 ((rd_T54 l0_8 a1).f2.f0), .int .i64 ((rd_T54 l0_8 a1).f2.f1), .int .i64 ((rd_T54 l0_8 a1).f2.f2)] 54 (0, 0)) (by (with_reducible repeat (first | refine blk_drewN ?_ _ | refine blk_drew ?_ | refine blk_alloc ?_ _)); exact BK158.out) hb)
                        have n3_ := Aside0.mk (below_step (by repeat (first | (with_reducible first | exact HB.out | apply below_alloc | apply pw_below_drewN | apply below_drew1 | refine below_set ?_ GE154.out | refine below_set ?_ GE155.out | refine below_set ?_ GE158.out) | exact HB.out)) hb)
                        have n4_ := Aside0.mk (hbox)
                        have n5_ := Aside0.mk ((by rw [hg]; exact (below_size (by repeat (first | (with_reducible first | exact HB.out | apply below_alloc | apply pw_below_drewN | apply below_drew1 | refine below_set ?_ GE154.out | refine below_set ?_ GE155.out | refine below_set ?_ GE158.out) | exact HB.out))) : w.heap.size ≤ gb160))
                        have n6_ := Aside0.mk ((by rw [hg]; exact (below_size (by repeat (first | (with_reducible first | exact HB.out | apply below_alloc | apply pw_below_drewN | apply below_drew1 | refine below_set ?_ GE154.out | refine below_set ?_ GE155.out | refine below_set ?_ GE158.out) | exact HB.out))) : w.heap.size ≤ gb160))
                        have n7_ := Aside0.mk ((by rw [hg]; exact Nat.ne_of_lt (blk_lt (g := gb154) (o := .cells #[.int .i64 a0_0, .int .i64 a0_1, .int .i64 a0_2, .int .i64 a0_3, .int .i64 a0_4, .int .i64 a0_5, .int .i64 a0_6, .int .i64 a0_7, .slice (some ad157) l0_8.length c0_8, .slice A0_9 l0_9.length c0_9, .slice (some ad159) l0_10.length c0_10] 28 (0, 0)) (by (with_reducible repeat (first | refine blk_drewN ?_ _ | refine blk_drew ?_ | refine blk_alloc ?_ _)); exact BK154.out)) : gb154 ≠ gb160))
                        have n8_ := Aside0.mk ((by rw [hg]; exact Nat.ne_of_gt (blk_lt (g := gb154) (o := .cells #[.int .i64 a0_0, .int .i64 a0_1, .int .i64 a0_2, .int .i64 a0_3, .int .i64 a0_4, .int .i64 a0_5, .int .i64 a0_6, .int .i64 a0_7, .slice (some ad157) l0_8.length c0_8, .slice A0_9 l0_9.length c0_9, .slice (some ad159) l0_10.length c0_10] 28 (0, 0)) (by (with_reducible repeat (first | refine blk_drewN ?_ _ | refine blk_drew ?_ | refine blk_alloc ?_ _)); exact BK154.out)) : gb160 ≠ gb154))
                        have n9_ := Aside0.mk ((by rw [hg]; exact Nat.ne_of_lt (blk_lt (g := gb155) (o := .cells #[.int .i64 0, .int .i64 0, .int .i64 0, .int .i64 0] 32 (0, 0)) (by (with_reducible repeat (first | refine blk_drewN ?_ _ | refine blk_drew ?_ | refine blk_alloc ?_ _)); exact BK155.out)) : gb155 ≠ gb160))
                        have n10_ := Aside0.mk ((by rw [hg]; exact Nat.ne_of_gt (blk_lt (g := gb155) (o := .cells #[.int .i64 0, .int .i64 0, .int .i64 0, .int .i64 0] 32 (0, 0)) (by (with_reducible repeat (first | refine blk_drewN ?_ _ | refine blk_drew ?_ | refine blk_alloc ?_ _)); exact BK155.out)) : gb160 ≠ gb155))
                        have n11_ := Aside0.mk ((by rw [hg]; exact Nat.ne_of_lt (blk_lt (g := gb158) (o := .cells #[.int .i64 ((rd_T54 l0_8 a1).f0), .int .i64 ((rd_T54 l0_8 a1).f1.f0), .int .i64 ((rd_T54 l0_8 a1).f1.f1), .int .i64 ((rd_T54 l0_8 a1).f1.f2), .int .i64 ((rd_T54 l0_8 a1).f1.f3), .int .i64 ((rd_T54 l0_8 a1).f2.f0), .int .i64 ((rd_T54 l0_8 a1).f2.f1), .int .i64 ((rd_T54 l0_8 a1).f2.f2)] 54 (0, 0)) (by (with_reducible repeat (first | refine blk_drewN ?_ _ | refine blk_drew ?_ | refine blk_alloc ?_ _)); exact BK158.out)) : gb158 ≠ gb160))
                        have n12_ := Aside0.mk ((by rw [hg]; exact Nat.ne_of_gt (blk_lt (g := gb158) (o := .cells #[.int .i64 ((rd_T54 l0_8 a1).f0), .int .i64 ((rd_T54 l0_8 a1).f1.f0), .int .i64 ((rd_T54 l0_8 a1).f1.f1), .int .i64 ((rd_T54 l0_8 a1).f1.f2), .int .i64 ((rd_T54 l0_8 a1).f1.f3), .int .i64 ((rd_T54 l0_8 a1).f2.f0), .int .i64 ((rd_T54 l0_8 a1).f2.f1), .int .i64 ((rd_T54 l0_8 a1).f2.f2)] 54 (0, 0)) (by (with_reducible repeat (first | refine blk_drewN ?_ _ | refine blk_drew ?_ | refine blk_alloc ?_ _)); exact BK158.out)) : gb160 ≠ gb158))
                        clear BK154
                        clear BK155
                        clear BK158
                        clear HB
                        have BK154 := n0_
                        have BK155 := n1_
                        have BK158 := n2_
                        have HB := n3_
                        have BK160 := n4_
                        have GW160 := n5_
                        have GE160 := n6_
                        have NB154_160 := n7_
                        have NB160_154 := n8_
                        have NB155_160 := n9_
                        have NB160_155 := n10_
                        have NB158_160 := n11_
                        have NB160_158 := n12_
                        clear n0_ n1_ n2_ n3_ n4_ n5_ n6_ n7_ n8_ n9_ n10_ n11_ n12_
                        clear hb hbox hg
                        refine hK.out _ _ ⟨(blk_cell BK154.out 0).trans rfl, (blk_cell BK154.out 1).trans rfl, (blk_cell BK154.out 2).trans rfl, (blk_cell BK154.out 3).trans rfl, (blk_cell BK154.out 4).trans rfl, (blk_cell BK154.out 5).trans rfl, (blk_cell BK154.out 6).trans rfl, (blk_cell BK154.out 7).trans rfl, (blk_cell BK154.out 8).trans rfl, (blk_cell BK154.out 9).trans rfl, (blk_cell BK154.out 10).trans rfl, (blk_cell BK158.out 0).trans rfl, (blk_cell BK158.out 1).trans rfl, (blk_cell BK158.out 2).trans rfl, (blk_cell BK158.out 3).trans rfl, (blk_cell BK158.out 4).trans rfl, (blk_cell BK158.out 5).trans rfl, (blk_cell BK158.out 6).trans rfl, (blk_cell BK158.out 7).trans rfl, ((HB.out.cell (World.block_lt_of_cell? w _ hw159_0)).trans hw159_0)⟩ (fun hHeld => ?_)
                        clear hK K
                        refine norm_ (a' := ?_) ?_ ?_
                        rotate_left
                        · show Act.put _ (some 11) _ = _
                          simp only [Act.put, List.setIfInBounds_toArray, List.set_cons_zero, List.set_cons_succ, i64_w, i32_w]
                          rfl
                        refine one_ (i := 14) (N := none) #[true, true, true, true, true, true, true, true, true, true, true, true, true, true, true] rfl rfl (one_of HT_.out (by kernel_rfl)) (by decide) (fun K hK => ?_)
                        have hs65 : w64.cell? ⟨gb160, 0, none⟩ = some (.string (⟨#[]⟩ : ByteArray)) := (blk_cell BK160.out 0).trans rfl
                        have hfs65 := blk_frozen BK160.out 0
                        have hns65_0 := NB154_160.out
                        have hns65_1 := NB155_160.out
                        have hns65_2 := NB158_160.out
                        have hms65_0 := NB160_154.out
                        have hms65_1 := NB160_155.out
                        have hms65_2 := NB160_158.out
                        have hs66 : w64.cell? ⟨gb160, 1, none⟩ = some (.int .i64 0) := (blk_cell BK160.out 1).trans rfl
                        have hfs66 := blk_frozen BK160.out 1
                        have hns66_0 := NB154_160.out
                        have hns66_1 := NB155_160.out
                        have hns66_2 := NB158_160.out
                        have hms66_0 := NB160_154.out
                        have hms66_1 := NB160_155.out
                        have hms66_2 := NB160_158.out
                        have hs67 : w64.cell? ⟨gb160, 2, none⟩ = some (.int .i64 0) := (blk_cell BK160.out 2).trans rfl
                        have hfs67 := blk_frozen BK160.out 2
                        have hns67_0 := NB154_160.out
                        have hns67_1 := NB155_160.out
                        have hns67_2 := NB158_160.out
                        have hms67_0 := NB160_154.out
                        have hms67_1 := NB160_155.out
                        have hms67_2 := NB160_158.out
                        have hs68 : w64.cell? ⟨gb160, 3, none⟩ = some (.int .i64 0) := (blk_cell BK160.out 3).trans rfl
                        have hfs68 := blk_frozen BK160.out 3
                        have hns68_0 := NB154_160.out
                        have hns68_1 := NB155_160.out
                        have hns68_2 := NB158_160.out
                        have hms68_0 := NB160_154.out
                        have hms68_1 := NB160_155.out
                        have hms68_2 := NB160_158.out
                        have hs69 : w64.cell? ⟨gb160, 4, none⟩ = some (.int .i64 0) := (blk_cell BK160.out 4).trans rfl
                        have hfs69 := blk_frozen BK160.out 4
                        have hns69_0 := NB154_160.out
                        have hns69_1 := NB155_160.out
                        have hns69_2 := NB158_160.out
                        have hms69_0 := NB160_154.out
                        have hms69_1 := NB160_155.out
                        have hms69_2 := NB160_158.out
                        refine skip_ (w1 := ?_) (by rfl) rfl ?_ ?_
                        rotate_left
                        · go_simp
                          rfl
                        refine hK.out _ _ ⟨((cell_far (p := ⟨gb160, _, none⟩) NB154_160.out _).trans (((cell_far (p := ⟨gb160, _, none⟩) NB154_160.out _).trans (((cell_far (p := ⟨gb160, _, none⟩) NB154_160.out _).trans (((cell_far (p := ⟨gb160, _, none⟩) NB154_160.out _).trans (((cell_far (p := ⟨gb160, _, none⟩) NB154_160.out _).trans (hHeld.1)))))))))), ((cell_far (p := ⟨gb160, _, none⟩) NB154_160.out _).trans (((cell_far (p := ⟨gb160, _, none⟩) NB154_160.out _).trans (((cell_far (p := ⟨gb160, _, none⟩) NB154_160.out _).trans (((cell_far (p := ⟨gb160, _, none⟩) NB154_160.out _).trans (((cell_far (p := ⟨gb160, _, none⟩) NB154_160.out _).trans (hHeld.2.1)))))))))), ((cell_far (p := ⟨gb160, _, none⟩) NB154_160.out _).trans (((cell_far (p := ⟨gb160, _, none⟩) NB154_160.out _).trans (((cell_far (p := ⟨gb160, _, none⟩) NB154_160.out _).trans (((cell_far (p := ⟨gb160, _, none⟩) NB154_160.out _).trans (((cell_far (p := ⟨gb160, _, none⟩) NB154_160.out _).trans (hHeld.2.2.1)))))))))), ((cell_far (p := ⟨gb160, _, none⟩) NB154_160.out _).trans (((cell_far (p := ⟨gb160, _, none⟩) NB154_160.out _).trans (((cell_far (p := ⟨gb160, _, none⟩) NB154_160.out _).trans (((cell_far (p := ⟨gb160, _, none⟩) NB154_160.out _).trans (((cell_far (p := ⟨gb160, _, none⟩) NB154_160.out _).trans (hHeld.2.2.2.1)))))))))), ((cell_far (p := ⟨gb160, _, none⟩) NB154_160.out _).trans (((cell_far (p := ⟨gb160, _, none⟩) NB154_160.out _).trans (((cell_far (p := ⟨gb160, _, none⟩) NB154_160.out _).trans (((cell_far (p := ⟨gb160, _, none⟩) NB154_160.out _).trans (((cell_far (p := ⟨gb160, _, none⟩) NB154_160.out _).trans (hHeld.2.2.2.2.1)))))))))), ((cell_far (p := ⟨gb160, _, none⟩) NB154_160.out _).trans (((cell_far (p := ⟨gb160, _, none⟩) NB154_160.out _).trans (((cell_far (p := ⟨gb160, _, none⟩) NB154_160.out _).trans (((cell_far (p := ⟨gb160, _, none⟩) NB154_160.out _).trans (((cell_far (p := ⟨gb160, _, none⟩) NB154_160.out _).trans (hHeld.2.2.2.2.2.1)))))))))), ((cell_far (p := ⟨gb160, _, none⟩) NB154_160.out _).trans (((cell_far (p := ⟨gb160, _, none⟩) NB154_160.out _).trans (((cell_far (p := ⟨gb160, _, none⟩) NB154_160.out _).trans (((cell_far (p := ⟨gb160, _, none⟩) NB154_160.out _).trans (((cell_far (p := ⟨gb160, _, none⟩) NB154_160.out _).trans (hHeld.2.2.2.2.2.2.1)))))))))), ((cell_far (p := ⟨gb160, _, none⟩) NB154_160.out _).trans (((cell_far (p := ⟨gb160, _, none⟩) NB154_160.out _).trans (((cell_far (p := ⟨gb160, _, none⟩) NB154_160.out _).trans (((cell_far (p := ⟨gb160, _, none⟩) NB154_160.out _).trans (((cell_far (p := ⟨gb160, _, none⟩) NB154_160.out _).trans (hHeld.2.2.2.2.2.2.2.1)))))))))), ((cell_far (p := ⟨gb160, _, none⟩) NB154_160.out _).trans (((cell_far (p := ⟨gb160, _, none⟩) NB154_160.out _).trans (((cell_far (p := ⟨gb160, _, none⟩) NB154_160.out _).trans (((cell_far (p := ⟨gb160, _, none⟩) NB154_160.out _).trans (((cell_far (p := ⟨gb160, _, none⟩) NB154_160.out _).trans (hHeld.2.2.2.2.2.2.2.2.1)))))))))), ((cell_far (p := ⟨gb160, _, none⟩) NB154_160.out _).trans (((cell_far (p := ⟨gb160, _, none⟩) NB154_160.out _).trans (((cell_far (p := ⟨gb160, _, none⟩) NB154_160.out _).trans (((cell_far (p := ⟨gb160, _, none⟩) NB154_160.out _).trans (((cell_far (p := ⟨gb160, _, none⟩) NB154_160.out _).trans (hHeld.2.2.2.2.2.2.2.2.2.1)))))))))), ((cell_far (p := ⟨gb160, _, none⟩) NB154_160.out _).trans (((cell_far (p := ⟨gb160, _, none⟩) NB154_160.out _).trans (((cell_far (p := ⟨gb160, _, none⟩) NB154_160.out _).trans (((cell_far (p := ⟨gb160, _, none⟩) NB154_160.out _).trans (((cell_far (p := ⟨gb160, _, none⟩) NB154_160.out _).trans (hHeld.2.2.2.2.2.2.2.2.2.2.1)))))))))), ((cell_far (p := ⟨gb160, _, none⟩) NB158_160.out _).trans (((cell_far (p := ⟨gb160, _, none⟩) NB158_160.out _).trans (((cell_far (p := ⟨gb160, _, none⟩) NB158_160.out _).trans (((cell_far (p := ⟨gb160, _, none⟩) NB158_160.out _).trans (((cell_far (p := ⟨gb160, _, none⟩) NB158_160.out _).trans (hHeld.2.2.2.2.2.2.2.2.2.2.2.1)))))))))), ((cell_far (p := ⟨gb160, _, none⟩) NB158_160.out _).trans (((cell_far (p := ⟨gb160, _, none⟩) NB158_160.out _).trans (((cell_far (p := ⟨gb160, _, none⟩) NB158_160.out _).trans (((cell_far (p := ⟨gb160, _, none⟩) NB158_160.out _).trans (((cell_far (p := ⟨gb160, _, none⟩) NB158_160.out _).trans (hHeld.2.2.2.2.2.2.2.2.2.2.2.2.1)))))))))), ((cell_far (p := ⟨gb160, _, none⟩) NB158_160.out _).trans (((cell_far (p := ⟨gb160, _, none⟩) NB158_160.out _).trans (((cell_far (p := ⟨gb160, _, none⟩) NB158_160.out _).trans (((cell_far (p := ⟨gb160, _, none⟩) NB158_160.out _).trans (((cell_far (p := ⟨gb160, _, none⟩) NB158_160.out _).trans (hHeld.2.2.2.2.2.2.2.2.2.2.2.2.2.1)))))))))), ((cell_far (p := ⟨gb160, _, none⟩) NB158_160.out _).trans (((cell_far (p := ⟨gb160, _, none⟩) NB158_160.out _).trans (((cell_far (p := ⟨gb160, _, none⟩) NB158_160.out _).trans (((cell_far (p := ⟨gb160, _, none⟩) NB158_160.out _).trans (((cell_far (p := ⟨gb160, _, none⟩) NB158_160.out _).trans (hHeld.2.2.2.2.2.2.2.2.2.2.2.2.2.2.1)))))))))), ((cell_far (p := ⟨gb160, _, none⟩) NB158_160.out _).trans (((cell_far (p := ⟨gb160, _, none⟩) NB158_160.out _).trans (((cell_far (p := ⟨gb160, _, none⟩) NB158_160.out _).trans (((cell_far (p := ⟨gb160, _, none⟩) NB158_160.out _).trans (((cell_far (p := ⟨gb160, _, none⟩) NB158_160.out _).trans (hHeld.2.2.2.2.2.2.2.2.2.2.2.2.2.2.2.1)))))))))), ((cell_far (p := ⟨gb160, _, none⟩) NB158_160.out _).trans (((cell_far (p := ⟨gb160, _, none⟩) NB158_160.out _).trans (((cell_far (p := ⟨gb160, _, none⟩) NB158_160.out _).trans (((cell_far (p := ⟨gb160, _, none⟩) NB158_160.out _).trans (((cell_far (p := ⟨gb160, _, none⟩) NB158_160.out _).trans (hHeld.2.2.2.2.2.2.2.2.2.2.2.2.2.2.2.2.1)))))))))), ((cell_far (p := ⟨gb160, _, none⟩) NB158_160.out _).trans (((cell_far (p := ⟨gb160, _, none⟩) NB158_160.out _).trans (((cell_far (p := ⟨gb160, _, none⟩) NB158_160.out _).trans (((cell_far (p := ⟨gb160, _, none⟩) NB158_160.out _).trans (((cell_far (p := ⟨gb160, _, none⟩) NB158_160.out _).trans (hHeld.2.2.2.2.2.2.2.2.2.2.2.2.2.2.2.2.2.1)))))))))), ((cell_far (p := ⟨gb160, _, none⟩) NB158_160.out _).trans (((cell_far (p := ⟨gb160, _, none⟩) NB158_160.out _).trans (((cell_far (p := ⟨gb160, _, none⟩) NB158_160.out _).trans (((cell_far (p := ⟨gb160, _, none⟩) NB158_160.out _).trans (((cell_far (p := ⟨gb160, _, none⟩) NB158_160.out _).trans (hHeld.2.2.2.2.2.2.2.2.2.2.2.2.2.2.2.2.2.2.1)))))))))), ((cell_far (p := ⟨gb160, _, none⟩) (by first | exact Nat.ne_of_lt (Nat.lt_of_lt_of_le (by have := World.block_lt_of_cell? _ _ hw159_0; first | rwa [add_block] at this | exact this) GW160.out) | (rw [add_block]; exact Nat.ne_of_lt (Nat.lt_of_lt_of_le (by have := World.block_lt_of_cell? _ _ hw159_0; first | rwa [add_block] at this | exact this) GW160.out)) | (show (Addr.add _ _).block ≠ _; rw [add_block]; exact Nat.ne_of_lt (Nat.lt_of_lt_of_le (by have := World.block_lt_of_cell? _ _ hw159_0; first | rwa [add_block] at this | exact this) GW160.out)) | (dsimp only; exact Nat.ne_of_lt (Nat.lt_of_lt_of_le (by have := World.block_lt_of_cell? _ _ hw159_0; first | rwa [add_block] at this | exact this) GW160.out))) _).trans (((cell_far (p := ⟨gb160, _, none⟩) (by first | exact Nat.ne_of_lt (Nat.lt_of_lt_of_le (by have := World.block_lt_of_cell? _ _ hw159_0; first | rwa [add_block] at this | exact this) GW160.out) | (rw [add_block]; exact Nat.ne_of_lt (Nat.lt_of_lt_of_le (by have := World.block_lt_of_cell? _ _ hw159_0; first | rwa [add_block] at this | exact this) GW160.out)) | (show (Addr.add _ _).block ≠ _; rw [add_block]; exact Nat.ne_of_lt (Nat.lt_of_lt_of_le (by have := World.block_lt_of_cell? _ _ hw159_0; first | rwa [add_block] at this | exact this) GW160.out)) | (dsimp only; exact Nat.ne_of_lt (Nat.lt_of_lt_of_le (by have := World.block_lt_of_cell? _ _ hw159_0; first | rwa [add_block] at this | exact this) GW160.out))) _).trans (((cell_far (p := ⟨gb160, _, none⟩) (by first | exact Nat.ne_of_lt (Nat.lt_of_lt_of_le (by have := World.block_lt_of_cell? _ _ hw159_0; first | rwa [add_block] at this | exact this) GW160.out) | (rw [add_block]; exact Nat.ne_of_lt (Nat.lt_of_lt_of_le (by have := World.block_lt_of_cell? _ _ hw159_0; first | rwa [add_block] at this | exact this) GW160.out)) | (show (Addr.add _ _).block ≠ _; rw [add_block]; exact Nat.ne_of_lt (Nat.lt_of_lt_of_le (by have := World.block_lt_of_cell? _ _ hw159_0; first | rwa [add_block] at this | exact this) GW160.out)) | (dsimp only; exact Nat.ne_of_lt (Nat.lt_of_lt_of_le (by have := World.block_lt_of_cell? _ _ hw159_0; first | rwa [add_block] at this | exact this) GW160.out))) _).trans (((cell_far (p := ⟨gb160, _, none⟩) (by first | exact Nat.ne_of_lt (Nat.lt_of_lt_of_le (by have := World.block_lt_of_cell? _ _ hw159_0; first | rwa [add_block] at this | exact this) GW160.out) | (rw [add_block]; exact Nat.ne_of_lt (Nat.lt_of_lt_of_le (by have := World.block_lt_of_cell? _ _ hw159_0; first | rwa [add_block] at this | exact this) GW160.out)) | (show (Addr.add _ _).block ≠ _; rw [add_block]; exact Nat.ne_of_lt (Nat.lt_of_lt_of_le (by have := World.block_lt_of_cell? _ _ hw159_0; first | rwa [add_block] at this | exact this) GW160.out)) | (dsimp only; exact Nat.ne_of_lt (Nat.lt_of_lt_of_le (by have := World.block_lt_of_cell? _ _ hw159_0; first | rwa [add_block] at this | exact this) GW160.out))) _).trans (((cell_far (p := ⟨gb160, _, none⟩) (by first | exact Nat.ne_of_lt (Nat.lt_of_lt_of_le (by have := World.block_lt_of_cell? _ _ hw159_0; first | rwa [add_block] at this | exact this) GW160.out) | (rw [add_block]; exact Nat.ne_of_lt (Nat.lt_of_lt_of_le (by have := World.block_lt_of_cell? _ _ hw159_0; first | rwa [add_block] at this | exact this) GW160.out)) | (show (Addr.add _ _).block ≠ _; rw [add_block]; exact Nat.ne_of_lt (Nat.lt_of_lt_of_le (by have := World.block_lt_of_cell? _ _ hw159_0; first | rwa [add_block] at this | exact this) GW160.out)) | (dsimp only; exact Nat.ne_of_lt (Nat.lt_of_lt_of_le (by have := World.block_lt_of_cell? _ _ hw159_0; first | rwa [add_block] at this | exact this) GW160.out))) _).trans (hHeld.2.2.2.2.2.2.2.2.2.2.2.2.2.2.2.2.2.2.2))))))))))⟩ (fun hHeld => ?_)
                        clear hK K
                        refine done_ (done_of HT_.out (by kernel_rfl)) ?_
                        have hnb70 := NB158_154.out
                        have hnc70 := NB154_158.out
                        have hnb71 := NB158_155.out
                        have hnc71 := NB155_158.out
                        have hnb72 := NB158_160.out
                        have hnc72 := NB160_158.out
                        have hcz73_0 : w64.cell? ⟨gb158, 0, none⟩ = some (.int .i64 ((rd_T54 l0_8 a1).f0)) := (blk_cell BK158.out 0).trans rfl
                        have hcz73_1 : w64.cell? ⟨gb158, 1, none⟩ = some (.int .i64 ((rd_T54 l0_8 a1).f1.f0)) := (blk_cell BK158.out 1).trans rfl
                        have hcz73_2 : w64.cell? ⟨gb158, 2, none⟩ = some (.int .i64 ((rd_T54 l0_8 a1).f1.f1)) := (blk_cell BK158.out 2).trans rfl
                        have hcz73_3 : w64.cell? ⟨gb158, 3, none⟩ = some (.int .i64 ((rd_T54 l0_8 a1).f1.f2)) := (blk_cell BK158.out 3).trans rfl
                        have hcz73_4 : w64.cell? ⟨gb158, 4, none⟩ = some (.int .i64 ((rd_T54 l0_8 a1).f1.f3)) := (blk_cell BK158.out 4).trans rfl
                        have hcz73_5 : w64.cell? ⟨gb158, 5, none⟩ = some (.int .i64 ((rd_T54 l0_8 a1).f2.f0)) := (blk_cell BK158.out 5).trans rfl
                        have hcz73_6 : w64.cell? ⟨gb158, 6, none⟩ = some (.int .i64 ((rd_T54 l0_8 a1).f2.f1)) := (blk_cell BK158.out 6).trans rfl
                        have hcz73_7 : w64.cell? ⟨gb158, 7, none⟩ = some (.int .i64 ((rd_T54 l0_8 a1).f2.f2)) := (blk_cell BK158.out 7).trans rfl
                        have hfz73_0 := blk_frozen BK158.out 0
                        have hfz73_1 := blk_frozen BK158.out 1
                        have hfz73_2 := blk_frozen BK158.out 2
                        have hfz73_3 := blk_frozen BK158.out 3
                        have hfz73_4 := blk_frozen BK158.out 4
                        have hfz73_5 := blk_frozen BK158.out 5
                        have hfz73_6 := blk_frozen BK158.out 6
                        have hfz73_7 := blk_frozen BK158.out 7
                        try go_wp2_with (first | ((with_reducible refine gate_callee (f := 17) rfl ?_); refine goesL_ (some 86) rfl rfl Tryd.func17 (by kernel_rfl) rfl #[.int .i64 a2, .int .i64 ((rd_T54 l0_8 a1).f1.f2)] rfl (by (try simp only [List.map_toArray, List.map_cons, List.map_nil]); first | done | rfl | (simp only [List.length_drop, List.length_take]; rfl)) ?_; (with_reducible refine (sample_part.calls a2 ((rd_T54 l0_8 a1).f1.f2) t161 t162 _ A58.out).mono ?_); rintro e w74 ⟨rfl, hb⟩; refine ⟨_, rfl, ?_⟩; have n0_ := Aside0.mk (blk_below (g := gb154) (o := .cells #[.int .i64 a0_0, .int .i64 a0_1, .int .i64 a0_2, .int .i64 a0_3, .int .i64 a0_4, .int .i64 a0_5, .int .i64 a0_6, .int .i64 a0_7, .slice (some ad157) l0_8.length c0_8, .slice A0_9 l0_9.length c0_9, .slice (some ad159) l0_10.length c0_10] 28 (0, 0)) (by (with_reducible repeat (first | refine blk_drewN ?_ _ | refine blk_drew ?_ | refine blk_alloc ?_ _)); refine blk_far ?_ NB154_160.out _; (with_reducible repeat (first | refine blk_drewN ?_ _ | refine blk_drew ?_ | refine blk_alloc ?_ _)); refine blk_far ?_ NB154_160.out _; (with_reducible repeat (first | refine blk_drewN ?_ _ | refine blk_drew ?_ | refine blk_alloc ?_ _)); refine blk_far ?_ NB154_160.out _; (with_reducible repeat (first | refine blk_drewN ?_ _ | refine blk_drew ?_ | refine blk_alloc ?_ _)); refine blk_far ?_ NB154_160.out _; (with_reducible repeat (first | refine blk_drewN ?_ _ | refine blk_drew ?_ | refine blk_alloc ?_ _)); refine blk_far ?_ NB154_160.out _; (with_reducible repeat (first | refine blk_drewN ?_ _ | refine blk_drew ?_ | refine blk_alloc ?_ _)); exact BK154.out) hb); have n1_ := Aside0.mk (blk_below (g := gb155) (o := .cells #[.int .i64 0, .int .i64 0, .int .i64 0, .int .i64 0] 32 (0, 0)) (by (with_reducible repeat (first | refine blk_drewN ?_ _ | refine blk_drew ?_ | refine blk_alloc ?_ _)); refine blk_far ?_ NB155_160.out _; (with_reducible repeat (first | refine blk_drewN ?_ _ | refine blk_drew ?_ | refine blk_alloc ?_ _)); refine blk_far ?_ NB155_160.out _; (with_reducible repeat (first | refine blk_drewN ?_ _ | refine blk_drew ?_ | refine blk_alloc ?_ _)); refine blk_far ?_ NB155_160.out _; (with_reducible repeat (first | refine blk_drewN ?_ _ | refine blk_drew ?_ | refine blk_alloc ?_ _)); refine blk_far ?_ NB155_160.out _; (with_reducible repeat (first | refine blk_drewN ?_ _ | refine blk_drew ?_ | refine blk_alloc ?_ _)); refine blk_far ?_ NB155_160.out _; (with_reducible repeat (first | refine blk_drewN ?_ _ | refine blk_drew ?_ | refine blk_alloc ?_ _)); exact BK155.out) hb); have n2_ := Aside0.mk (blk_below (g := gb158) (o := .cells #[.int .i64 ((rd_T54 l0_8 a1).f0), .int .i64 ((rd_T54 l0_8 a1).f1.f0), .int .i64 ((rd_T54 l0_8 a1).f1.f1), .int .i64 ((rd_T54 l0_8 a1).f1.f2), .int .i64 ((rd_T54 l0_8 a1).f1.f3), .int .i64 ((rd_T54 l0_8 a1).f2.f0), .int .i64 ((rd_T54 l0_8 a1).f2.f1), .int .i64 ((rd_T54 l0_8 a1).f2.f2)] 54 (0, 0)) (by (with_reducible repeat (first | refine blk_drewN ?_ _ | refine blk_drew ?_ | refine blk_alloc ?_ _)); refine blk_far ?_ NB158_160.out _; (with_reducible repeat (first | refine blk_drewN ?_ _ | refine blk_drew ?_ | refine blk_alloc ?_ _)); refine blk_far ?_ NB158_160.out _; (with_reducible repeat (first | refine blk_drewN ?_ _ | refine blk_drew ?_ | refine blk_alloc ?_ _)); refine blk_far ?_ NB158_160.out _; (with_reducible repeat (first | refine blk_drewN ?_ _ | refine blk_drew ?_ | refine blk_alloc ?_ _)); refine blk_far ?_ NB158_160.out _; (with_reducible repeat (first | refine blk_drewN ?_ _ | refine blk_drew ?_ | refine blk_alloc ?_ _)); refine blk_far ?_ NB158_160.out _; (with_reducible repeat (first | refine blk_drewN ?_ _ | refine blk_drew ?_ | refine blk_alloc ?_ _)); exact BK158.out) hb); have n3_ := Aside0.mk (blk_below (g := gb160) (o := .cells #[.string (rdOf ByteArray.empty l0_10 ((rd_T54 l0_8 a1).f2.f0)), .int .i64 a0_6, .int .i64 ((rd_T54 l0_8 a1).f2.f0), .int .i64 ((rd_T54 l0_8 a1).f2.f1), .int .i64 ((rd_T54 l0_8 a1).f2.f2)] 62 (0, 0)) (by (with_reducible repeat (first | refine blk_drewN ?_ _ | refine blk_drew ?_ | refine blk_alloc ?_ _)); refine blk_put (cs := #[.string (rdOf ByteArray.empty l0_10 ((rd_T54 l0_8 a1).f2.f0)), .int .i64 a0_6, .int .i64 ((rd_T54 l0_8 a1).f2.f0), .int .i64 ((rd_T54 l0_8 a1).f2.f1), .int .i64 0]) ?_ 4 _ rfl; (with_reducible repeat (first | refine blk_drewN ?_ _ | refine blk_drew ?_ | refine blk_alloc ?_ _)); refine blk_put (cs := #[.string (rdOf ByteArray.empty l0_10 ((rd_T54 l0_8 a1).f2.f0)), .int .i64 a0_6, .int .i64 ((rd_T54 l0_8 a1).f2.f0), .int .i64 0, .int .i64 0]) ?_ 3 _ rfl; (with_reducible repeat (first | refine blk_drewN ?_ _ | refine blk_drew ?_ | refine blk_alloc ?_ _)); refine blk_put (cs := #[.string (rdOf ByteArray.empty l0_10 ((rd_T54 l0_8 a1).f2.f0)), .int .i64 a0_6, .int .i64 0, .int .i64 0, .int .i64 0]) ?_ 2 _ rfl; (with_reducible repeat (first | refine blk_drewN ?_ _ | refine blk_drew ?_ | refine blk_alloc ?_ _)); refine blk_put (cs := #[.string (rdOf ByteArray.empty l0_10 ((rd_T54 l0_8 a1).f2.f0)), .int .i64 0, .int .i64 0, .int .i64 0, .int .i64 0]) ?_ 1 _ rfl; (with_reducible repeat (first | refine blk_drewN ?_ _ | refine blk_drew ?_ | refine blk_alloc ?_ _)); refine blk_put (cs := #[.string (⟨#[]⟩ : ByteArray), .int .i64 0, .int .i64 0, .int .i64 0, .int .i64 0]) ?_ 0 _ rfl; (with_reducible repeat (first | refine blk_drewN ?_ _ | refine blk_drew ?_ | refine blk_alloc ?_ _)); exact BK160.out) hb); have n4_ := Aside0.mk (below_step (by repeat (first | (with_reducible first | exact HB.out | apply below_alloc | apply pw_below_drewN | apply below_drew1 | refine below_set ?_ GE154.out | refine below_set ?_ GE155.out | refine below_set ?_ GE158.out | refine below_set ?_ GE160.out) | exact HB.out)) hb); clear BK154; clear BK155; clear BK158; clear BK160; clear HB; have BK154 := n0_; have BK155 := n1_; have BK158 := n2_; have BK160 := n3_; have HB := n4_; clear n0_ n1_ n2_ n3_ n4_; (try clear hb); (try clear hb2); (try clear hk); (try clear hi); have hcz75_0 : w74.cell? ⟨gb158, 0, none⟩ = some (.int .i64 ((rd_T54 l0_8 a1).f0)) := (blk_cell BK158.out 0).trans rfl; have hcz75_1 : w74.cell? ⟨gb158, 1, none⟩ = some (.int .i64 ((rd_T54 l0_8 a1).f1.f0)) := (blk_cell BK158.out 1).trans rfl; have hcz75_2 : w74.cell? ⟨gb158, 2, none⟩ = some (.int .i64 ((rd_T54 l0_8 a1).f1.f1)) := (blk_cell BK158.out 2).trans rfl; have hcz75_3 : w74.cell? ⟨gb158, 3, none⟩ = some (.int .i64 ((rd_T54 l0_8 a1).f1.f2)) := (blk_cell BK158.out 3).trans rfl; have hcz75_4 : w74.cell? ⟨gb158, 4, none⟩ = some (.int .i64 ((rd_T54 l0_8 a1).f1.f3)) := (blk_cell BK158.out 4).trans rfl; have hcz75_5 : w74.cell? ⟨gb158, 5, none⟩ = some (.int .i64 ((rd_T54 l0_8 a1).f2.f0)) := (blk_cell BK158.out 5).trans rfl; have hcz75_6 : w74.cell? ⟨gb158, 6, none⟩ = some (.int .i64 ((rd_T54 l0_8 a1).f2.f1)) := (blk_cell BK158.out 6).trans rfl; have hcz75_7 : w74.cell? ⟨gb158, 7, none⟩ = some (.int .i64 ((rd_T54 l0_8 a1).f2.f2)) := (blk_cell BK158.out 7).trans rfl; have hfz75_0 := blk_frozen BK158.out 0; have hfz75_1 := blk_frozen BK158.out 1; have hfz75_2 := blk_frozen BK158.out 2; have hfz75_3 := blk_frozen BK158.out 3; have hfz75_4 := blk_frozen BK158.out 4; have hfz75_5 := blk_frozen BK158.out 5; have hfz75_6 := blk_frozen BK158.out 6; have hfz75_7 := blk_frozen BK158.out 7) | ((with_reducible refine gate_callee (f := 17) rfl ?_); refine goesL_ (some 94) rfl rfl Tryd.func17 (by kernel_rfl) rfl #[.int .i64 a3, .int .i64 ((rd_T54 l0_8 a1).f1.f3)] rfl (by (try simp only [List.map_toArray, List.map_cons, List.map_nil]); first | done | rfl | (simp only [List.length_drop, List.length_take]; rfl)) ?_; (with_reducible refine (sample_part.calls a3 ((rd_T54 l0_8 a1).f1.f3) t163 t164 _ A59.out).mono ?_); rintro e w76 ⟨rfl, hb⟩; refine ⟨_, rfl, ?_⟩; have n0_ := Aside0.mk (blk_below (g := gb154) (o := .cells #[.int .i64 a0_0, .int .i64 a0_1, .int .i64 a0_2, .int .i64 a0_3, .int .i64 a0_4, .int .i64 a0_5, .int .i64 a0_6, .int .i64 a0_7, .slice (some ad157) l0_8.length c0_8, .slice A0_9 l0_9.length c0_9, .slice (some ad159) l0_10.length c0_10] 28 (0, 0)) (by (with_reducible repeat (first | refine blk_drewN ?_ _ | refine blk_drew ?_ | refine blk_alloc ?_ _)); exact BK154.out) hb); have n1_ := Aside0.mk (blk_below (g := gb155) (o := .cells #[.int .i64 0, .int .i64 0, .int .i64 0, .int .i64 0] 32 (0, 0)) (by (with_reducible repeat (first | refine blk_drewN ?_ _ | refine blk_drew ?_ | refine blk_alloc ?_ _)); exact BK155.out) hb); have n2_ := Aside0.mk (blk_below (g := gb158) (o := .cells #[.int .i64 ((rd_T54 l0_8 a1).f0), .int .i64 ((rd_T54 l0_8 a1).f1.f0), .int .i64 ((rd_T54 l0_8 a1).f1.f1), .int .i64 ((rd_T54 l0_8 a1).f1.f2), .int .i64 ((rd_T54 l0_8 a1).f1.f3), .int .i64 ((rd_T54 l0_8 a1).f2.f0), .int .i64 ((rd_T54 l0_8 a1).f2.f1), .int .i64 ((rd_T54 l0_8 a1).f2.f2)] 54 (0, 0)) (by (with_reducible repeat (first | refine blk_drewN ?_ _ | refine blk_drew ?_ | refine blk_alloc ?_ _)); exact BK158.out) hb); have n3_ := Aside0.mk (blk_below (g := gb160) (o := .cells #[.string (rdOf ByteArray.empty l0_10 ((rd_T54 l0_8 a1).f2.f0)), .int .i64 a0_6, .int .i64 ((rd_T54 l0_8 a1).f2.f0), .int .i64 ((rd_T54 l0_8 a1).f2.f1), .int .i64 ((rd_T54 l0_8 a1).f2.f2)] 62 (0, 0)) (by (with_reducible repeat (first | refine blk_drewN ?_ _ | refine blk_drew ?_ | refine blk_alloc ?_ _)); exact BK160.out) hb); have n4_ := Aside0.mk (below_step (by repeat (first | (with_reducible first | exact HB.out | apply below_alloc | apply pw_below_drewN | apply below_drew1 | refine below_set ?_ GE154.out | refine below_set ?_ GE155.out | refine below_set ?_ GE158.out | refine below_set ?_ GE160.out) | exact HB.out)) hb); clear BK154; clear BK155; clear BK158; clear BK160; clear HB; have BK154 := n0_; have BK155 := n1_; have BK158 := n2_; have BK160 := n3_; have HB := n4_; clear n0_ n1_ n2_ n3_ n4_; (try clear hb); (try clear hb2); (try clear hk); (try clear hi); have hnb77 := NB160_154.out; have hnc77 := NB154_160.out; have hnb78 := NB160_155.out; have hnc78 := NB155_160.out; have hcz79_0 : w76.cell? ⟨gb160, 0, none⟩ = some (.string (rdOf ByteArray.empty l0_10 ((rd_T54 l0_8 a1).f2.f0))) := (blk_cell BK160.out 0).trans rfl; have hcz79_1 : w76.cell? ⟨gb160, 1, none⟩ = some (.int .i64 a0_6) := (blk_cell BK160.out 1).trans rfl; have hcz79_2 : w76.cell? ⟨gb160, 2, none⟩ = some (.int .i64 ((rd_T54 l0_8 a1).f2.f0)) := (blk_cell BK160.out 2).trans rfl; have hcz79_3 : w76.cell? ⟨gb160, 3, none⟩ = some (.int .i64 ((rd_T54 l0_8 a1).f2.f1)) := (blk_cell BK160.out 3).trans rfl; have hcz79_4 : w76.cell? ⟨gb160, 4, none⟩ = some (.int .i64 ((rd_T54 l0_8 a1).f2.f2)) := (blk_cell BK160.out 4).trans rfl; have hfz79_0 := blk_frozen BK160.out 0; have hfz79_1 := blk_frozen BK160.out 1; have hfz79_2 := blk_frozen BK160.out 2; have hfz79_3 := blk_frozen BK160.out 3; have hfz79_4 := blk_frozen BK160.out 4) | ((with_reducible refine gate_callee (f := 18) rfl ?_); refine goesL_ (some 101) rfl rfl Tryd.func18 (by kernel_rfl) rfl #[.agg #[.string (rdOf ByteArray.empty l0_10 ((rd_T54 l0_8 a1).f2.f0)), .int .i64 a0_6, .int .i64 ((rd_T54 l0_8 a1).f2.f0), .int .i64 ((rd_T54 l0_8 a1).f2.f1), .int .i64 ((rd_T54 l0_8 a1).f2.f2)], .int .i64 t161, .int .i64 t163, .int .i64 t162] rfl (by (try simp only [List.map_toArray, List.map_cons, List.map_nil]); first | done | rfl | (simp only [List.length_drop, List.length_take]; rfl)) ?_; (with_reducible refine (sample_sampler_row.calls (rdOf ByteArray.empty l0_10 ((rd_T54 l0_8 a1).f2.f0)) a0_6 ((rd_T54 l0_8 a1).f2.f0) ((rd_T54 l0_8 a1).f2.f1) ((rd_T54 l0_8 a1).f2.f2) t161 t163 t162 t165 t166 t167 t168 _ A60.out).mono ?_); rintro e w80 ⟨rfl, hb⟩; refine ⟨_, rfl, ?_⟩; have n0_ := Aside0.mk (blk_below (g := gb154) (o := .cells #[.int .i64 a0_0, .int .i64 a0_1, .int .i64 a0_2, .int .i64 a0_3, .int .i64 a0_4, .int .i64 a0_5, .int .i64 a0_6, .int .i64 a0_7, .slice (some ad157) l0_8.length c0_8, .slice A0_9 l0_9.length c0_9, .slice (some ad159) l0_10.length c0_10] 28 (0, 0)) (by (with_reducible repeat (first | refine blk_drewN ?_ _ | refine blk_drew ?_ | refine blk_alloc ?_ _)); exact BK154.out) hb); have n1_ := Aside0.mk (blk_below (g := gb155) (o := .cells #[.int .i64 0, .int .i64 0, .int .i64 0, .int .i64 0] 32 (0, 0)) (by (with_reducible repeat (first | refine blk_drewN ?_ _ | refine blk_drew ?_ | refine blk_alloc ?_ _)); exact BK155.out) hb); have n2_ := Aside0.mk (blk_below (g := gb158) (o := .cells #[.int .i64 ((rd_T54 l0_8 a1).f0), .int .i64 ((rd_T54 l0_8 a1).f1.f0), .int .i64 ((rd_T54 l0_8 a1).f1.f1), .int .i64 ((rd_T54 l0_8 a1).f1.f2), .int .i64 ((rd_T54 l0_8 a1).f1.f3), .int .i64 ((rd_T54 l0_8 a1).f2.f0), .int .i64 ((rd_T54 l0_8 a1).f2.f1), .int .i64 ((rd_T54 l0_8 a1).f2.f2)] 54 (0, 0)) (by (with_reducible repeat (first | refine blk_drewN ?_ _ | refine blk_drew ?_ | refine blk_alloc ?_ _)); exact BK158.out) hb); have n3_ := Aside0.mk (blk_below (g := gb160) (o := .cells #[.string (rdOf ByteArray.empty l0_10 ((rd_T54 l0_8 a1).f2.f0)), .int .i64 a0_6, .int .i64 ((rd_T54 l0_8 a1).f2.f0), .int .i64 ((rd_T54 l0_8 a1).f2.f1), .int .i64 ((rd_T54 l0_8 a1).f2.f2)] 62 (0, 0)) (by (with_reducible repeat (first | refine blk_drewN ?_ _ | refine blk_drew ?_ | refine blk_alloc ?_ _)); exact BK160.out) hb); have n4_ := Aside0.mk (below_step (by repeat (first | (with_reducible first | exact HB.out | apply below_alloc | apply pw_below_drewN | apply below_drew1 | refine below_set ?_ GE154.out | refine below_set ?_ GE155.out | refine below_set ?_ GE158.out | refine below_set ?_ GE160.out) | exact HB.out)) hb); clear BK154; clear BK155; clear BK158; clear BK160; clear HB; have BK154 := n0_; have BK155 := n1_; have BK158 := n2_; have BK160 := n3_; have HB := n4_; clear n0_ n1_ n2_ n3_ n4_; (try clear hb); (try clear hb2); (try clear hk); (try clear hi)) | ((with_reducible refine gate_dst (N := 16) rfl ?_); refine box_event ?hg (N := 16) ?hd (cs := #[.int .i64 0, .int .i64 0, .int .i64 0, .int .i64 0]) (t := 32) ?hr ?_; (case hd => rfl); (case hg => rfl); (case hr => first | (go_simp; done) | (go_simp; rfl)); intro gb169 hg w81 hbox hb; have n0_ := Aside0.mk (blk_below (g := gb154) (o := .cells #[.int .i64 a0_0, .int .i64 a0_1, .int .i64 a0_2, .int .i64 a0_3, .int .i64 a0_4, .int .i64 a0_5, .int .i64 a0_6, .int .i64 a0_7, .slice (some ad157) l0_8.length c0_8, .slice A0_9 l0_9.length c0_9, .slice (some ad159) l0_10.length c0_10] 28 (0, 0)) (by (with_reducible repeat (first | refine blk_drewN ?_ _ | refine blk_drew ?_ | refine blk_alloc ?_ _)); exact BK154.out) hb); have n1_ := Aside0.mk (blk_below (g := gb155) (o := .cells #[.int .i64 0, .int .i64 0, .int .i64 0, .int .i64 0] 32 (0, 0)) (by (with_reducible repeat (first | refine blk_drewN ?_ _ | refine blk_drew ?_ | refine blk_alloc ?_ _)); exact BK155.out) hb); have n2_ := Aside0.mk (blk_below (g := gb158) (o := .cells #[.int .i64 ((rd_T54 l0_8 a1).f0), .int .i64 ((rd_T54 l0_8 a1).f1.f0), .int .i64 ((rd_T54 l0_8 a1).f1.f1), .int .i64 ((rd_T54 l0_8 a1).f1.f2), .int .i64 ((rd_T54 l0_8 a1).f1.f3), .int .i64 ((rd_T54 l0_8 a1).f2.f0), .int .i64 ((rd_T54 l0_8 a1).f2.f1), .int .i64 ((rd_T54 l0_8 a1).f2.f2)] 54 (0, 0)) (by (with_reducible repeat (first | refine blk_drewN ?_ _ | refine blk_drew ?_ | refine blk_alloc ?_ _)); exact BK158.out) hb); have n3_ := Aside0.mk (blk_below (g := gb160) (o := .cells #[.string (rdOf ByteArray.empty l0_10 ((rd_T54 l0_8 a1).f2.f0)), .int .i64 a0_6, .int .i64 ((rd_T54 l0_8 a1).f2.f0), .int .i64 ((rd_T54 l0_8 a1).f2.f1), .int .i64 ((rd_T54 l0_8 a1).f2.f2)] 62 (0, 0)) (by (with_reducible repeat (first | refine blk_drewN ?_ _ | refine blk_drew ?_ | refine blk_alloc ?_ _)); exact BK160.out) hb); have n4_ := Aside0.mk (below_step (by repeat (first | (with_reducible first | exact HB.out | apply below_alloc | apply pw_below_drewN | apply below_drew1 | refine below_set ?_ GE154.out | refine below_set ?_ GE155.out | refine below_set ?_ GE158.out | refine below_set ?_ GE160.out) | exact HB.out)) hb); have n5_ := Aside0.mk (hbox); have n6_ := Aside0.mk ((by rw [hg]; exact (below_size (by repeat (first | (with_reducible first | exact HB.out | apply below_alloc | apply pw_below_drewN | apply below_drew1 | refine below_set ?_ GE154.out | refine below_set ?_ GE155.out | refine below_set ?_ GE158.out | refine below_set ?_ GE160.out) | exact HB.out))) : w.heap.size ≤ gb169)); have n7_ := Aside0.mk ((by rw [hg]; exact (below_size (by repeat (first | (with_reducible first | exact HB.out | apply below_alloc | apply pw_below_drewN | apply below_drew1 | refine below_set ?_ GE154.out | refine below_set ?_ GE155.out | refine below_set ?_ GE158.out | refine below_set ?_ GE160.out) | exact HB.out))) : w.heap.size ≤ gb169)); have n8_ := Aside0.mk ((by rw [hg]; exact Nat.ne_of_lt (blk_lt (g := gb154) (o := .cells #[.int .i64 a0_0, .int .i64 a0_1, .int .i64 a0_2, .int .i64 a0_3, .int .i64 a0_4, .int .i64 a0_5, .int .i64 a0_6, .int .i64 a0_7, .slice (some ad157) l0_8.length c0_8, .slice A0_9 l0_9.length c0_9, .slice (some ad159) l0_10.length c0_10] 28 (0, 0)) (by (with_reducible repeat (first | refine blk_drewN ?_ _ | refine blk_drew ?_ | refine blk_alloc ?_ _)); exact BK154.out)) : gb154 ≠ gb169)); have n9_ := Aside0.mk ((by rw [hg]; exact Nat.ne_of_gt (blk_lt (g := gb154) (o := .cells #[.int .i64 a0_0, .int .i64 a0_1, .int .i64 a0_2, .int .i64 a0_3, .int .i64 a0_4, .int .i64 a0_5, .int .i64 a0_6, .int .i64 a0_7, .slice (some ad157) l0_8.length c0_8, .slice A0_9 l0_9.length c0_9, .slice (some ad159) l0_10.length c0_10] 28 (0, 0)) (by (with_reducible repeat (first | refine blk_drewN ?_ _ | refine blk_drew ?_ | refine blk_alloc ?_ _)); exact BK154.out)) : gb169 ≠ gb154)); have n10_ := Aside0.mk ((by rw [hg]; exact Nat.ne_of_lt (blk_lt (g := gb155) (o := .cells #[.int .i64 0, .int .i64 0, .int .i64 0, .int .i64 0] 32 (0, 0)) (by (with_reducible repeat (first | refine blk_drewN ?_ _ | refine blk_drew ?_ | refine blk_alloc ?_ _)); exact BK155.out)) : gb155 ≠ gb169)); have n11_ := Aside0.mk ((by rw [hg]; exact Nat.ne_of_gt (blk_lt (g := gb155) (o := .cells #[.int .i64 0, .int .i64 0, .int .i64 0, .int .i64 0] 32 (0, 0)) (by (with_reducible repeat (first | refine blk_drewN ?_ _ | refine blk_drew ?_ | refine blk_alloc ?_ _)); exact BK155.out)) : gb169 ≠ gb155)); have n12_ := Aside0.mk ((by rw [hg]; exact Nat.ne_of_lt (blk_lt (g := gb158) (o := .cells #[.int .i64 ((rd_T54 l0_8 a1).f0), .int .i64 ((rd_T54 l0_8 a1).f1.f0), .int .i64 ((rd_T54 l0_8 a1).f1.f1), .int .i64 ((rd_T54 l0_8 a1).f1.f2), .int .i64 ((rd_T54 l0_8 a1).f1.f3), .int .i64 ((rd_T54 l0_8 a1).f2.f0), .int .i64 ((rd_T54 l0_8 a1).f2.f1), .int .i64 ((rd_T54 l0_8 a1).f2.f2)] 54 (0, 0)) (by (with_reducible repeat (first | refine blk_drewN ?_ _ | refine blk_drew ?_ | refine blk_alloc ?_ _)); exact BK158.out)) : gb158 ≠ gb169)); have n13_ := Aside0.mk ((by rw [hg]; exact Nat.ne_of_gt (blk_lt (g := gb158) (o := .cells #[.int .i64 ((rd_T54 l0_8 a1).f0), .int .i64 ((rd_T54 l0_8 a1).f1.f0), .int .i64 ((rd_T54 l0_8 a1).f1.f1), .int .i64 ((rd_T54 l0_8 a1).f1.f2), .int .i64 ((rd_T54 l0_8 a1).f1.f3), .int .i64 ((rd_T54 l0_8 a1).f2.f0), .int .i64 ((rd_T54 l0_8 a1).f2.f1), .int .i64 ((rd_T54 l0_8 a1).f2.f2)] 54 (0, 0)) (by (with_reducible repeat (first | refine blk_drewN ?_ _ | refine blk_drew ?_ | refine blk_alloc ?_ _)); exact BK158.out)) : gb169 ≠ gb158)); have n14_ := Aside0.mk ((by rw [hg]; exact Nat.ne_of_lt (blk_lt (g := gb160) (o := .cells #[.string (rdOf ByteArray.empty l0_10 ((rd_T54 l0_8 a1).f2.f0)), .int .i64 a0_6, .int .i64 ((rd_T54 l0_8 a1).f2.f0), .int .i64 ((rd_T54 l0_8 a1).f2.f1), .int .i64 ((rd_T54 l0_8 a1).f2.f2)] 62 (0, 0)) (by (with_reducible repeat (first | refine blk_drewN ?_ _ | refine blk_drew ?_ | refine blk_alloc ?_ _)); exact BK160.out)) : gb160 ≠ gb169)); have n15_ := Aside0.mk ((by rw [hg]; exact Nat.ne_of_gt (blk_lt (g := gb160) (o := .cells #[.string (rdOf ByteArray.empty l0_10 ((rd_T54 l0_8 a1).f2.f0)), .int .i64 a0_6, .int .i64 ((rd_T54 l0_8 a1).f2.f0), .int .i64 ((rd_T54 l0_8 a1).f2.f1), .int .i64 ((rd_T54 l0_8 a1).f2.f2)] 62 (0, 0)) (by (with_reducible repeat (first | refine blk_drewN ?_ _ | refine blk_drew ?_ | refine blk_alloc ?_ _)); exact BK160.out)) : gb169 ≠ gb160)); clear BK154; clear BK155; clear BK158; clear BK160; clear HB; have BK154 := n0_; have BK155 := n1_; have BK158 := n2_; have BK160 := n3_; have HB := n4_; have BK169 := n5_; have GW169 := n6_; have GE169 := n7_; have NB154_169 := n8_; have NB169_154 := n9_; have NB155_169 := n10_; have NB169_155 := n11_; have NB158_169 := n12_; have NB169_158 := n13_; have NB160_169 := n14_; have NB169_160 := n15_; clear n0_ n1_ n2_ n3_ n4_ n5_ n6_ n7_ n8_ n9_ n10_ n11_ n12_ n13_ n14_ n15_; clear hb hbox hg; have hnb82 := NB169_154.out; have hnc82 := NB154_169.out; have hnb83 := NB169_155.out; have hnc83 := NB155_169.out; have hnb84 := NB169_158.out; have hnc84 := NB158_169.out; have hnb85 := NB169_160.out; have hnc85 := NB160_169.out; have hcz86_0 : w81.cell? ⟨gb169, 0, none⟩ = some (.int .i64 0) := (blk_cell BK169.out 0).trans rfl; have hcz86_1 : w81.cell? ⟨gb169, 1, none⟩ = some (.int .i64 0) := (blk_cell BK169.out 1).trans rfl; have hcz86_2 : w81.cell? ⟨gb169, 2, none⟩ = some (.int .i64 0) := (blk_cell BK169.out 2).trans rfl; have hcz86_3 : w81.cell? ⟨gb169, 3, none⟩ = some (.int .i64 0) := (blk_cell BK169.out 3).trans rfl; have hfz86_0 := blk_frozen BK169.out 0; have hfz86_1 := blk_frozen BK169.out 1; have hfz86_2 := blk_frozen BK169.out 2; have hfz86_3 := blk_frozen BK169.out 3) | ((with_reducible refine gate_callee (f := 19) rfl ?_); refine goesL_ (some 106) rfl rfl Tryd.func19 (by kernel_rfl) rfl #[.agg #[.int .i64 t165, .int .i64 t166, .int .i64 t167, .int .i64 t168], .agg #[.int .i64 t165, .int .i64 t166, .int .i64 t167, .int .i64 t168], .int .i64 0] rfl (by (try simp only [List.map_toArray, List.map_cons, List.map_nil]); first | done | rfl | (simp only [List.length_drop, List.length_take]; rfl)) ?_; (with_reducible refine (sample_mixed.calls t165 t166 t167 t168 t165 t166 t167 t168 0 t170 t171 t172 t173 _ A62.out).mono ?_); rintro e w87 ⟨rfl, hb⟩; refine ⟨_, rfl, ?_⟩; have n0_ := Aside0.mk (blk_below (g := gb154) (o := .cells #[.int .i64 a0_0, .int .i64 a0_1, .int .i64 a0_2, .int .i64 a0_3, .int .i64 a0_4, .int .i64 a0_5, .int .i64 a0_6, .int .i64 a0_7, .slice (some ad157) l0_8.length c0_8, .slice A0_9 l0_9.length c0_9, .slice (some ad159) l0_10.length c0_10] 28 (0, 0)) (by (with_reducible repeat (first | refine blk_drewN ?_ _ | refine blk_drew ?_ | refine blk_alloc ?_ _)); refine blk_far ?_ NB154_169.out _; (with_reducible repeat (first | refine blk_drewN ?_ _ | refine blk_drew ?_ | refine blk_alloc ?_ _)); refine blk_far ?_ NB154_169.out _; (with_reducible repeat (first | refine blk_drewN ?_ _ | refine blk_drew ?_ | refine blk_alloc ?_ _)); refine blk_far ?_ NB154_169.out _; (with_reducible repeat (first | refine blk_drewN ?_ _ | refine blk_drew ?_ | refine blk_alloc ?_ _)); refine blk_far ?_ NB154_169.out _; (with_reducible repeat (first | refine blk_drewN ?_ _ | refine blk_drew ?_ | refine blk_alloc ?_ _)); exact BK154.out) hb); have n1_ := Aside0.mk (blk_below (g := gb155) (o := .cells #[.int .i64 0, .int .i64 0, .int .i64 0, .int .i64 0] 32 (0, 0)) (by (with_reducible repeat (first | refine blk_drewN ?_ _ | refine blk_drew ?_ | refine blk_alloc ?_ _)); refine blk_far ?_ NB155_169.out _; (with_reducible repeat (first | refine blk_drewN ?_ _ | refine blk_drew ?_ | refine blk_alloc ?_ _)); refine blk_far ?_ NB155_169.out _; (with_reducible repeat (first | refine blk_drewN ?_ _ | refine blk_drew ?_ | refine blk_alloc ?_ _)); refine blk_far ?_ NB155_169.out _; (with_reducible repeat (first | refine blk_drewN ?_ _ | refine blk_drew ?_ | refine blk_alloc ?_ _)); refine blk_far ?_ NB155_169.out _; (with_reducible repeat (first | refine blk_drewN ?_ _ | refine blk_drew ?_ | refine blk_alloc ?_ _)); exact BK155.out) hb); have n2_ := Aside0.mk (blk_below (g := gb158) (o := .cells #[.int .i64 ((rd_T54 l0_8 a1).f0), .int .i64 ((rd_T54 l0_8 a1).f1.f0), .int .i64 ((rd_T54 l0_8 a1).f1.f1), .int .i64 ((rd_T54 l0_8 a1).f1.f2), .int .i64 ((rd_T54 l0_8 a1).f1.f3), .int .i64 ((rd_T54 l0_8 a1).f2.f0), .int .i64 ((rd_T54 l0_8 a1).f2.f1), .int .i64 ((rd_T54 l0_8 a1).f2.f2)] 54 (0, 0)) (by (with_reducible repeat (first | refine blk_drewN ?_ _ | refine blk_drew ?_ | refine blk_alloc ?_ _)); refine blk_far ?_ NB158_169.out _; (with_reducible repeat (first | refine blk_drewN ?_ _ | refine blk_drew ?_ | refine blk_alloc ?_ _)); refine blk_far ?_ NB158_169.out _; (with_reducible repeat (first | refine blk_drewN ?_ _ | refine blk_drew ?_ | refine blk_alloc ?_ _)); refine blk_far ?_ NB158_169.out _; (with_reducible repeat (first | refine blk_drewN ?_ _ | refine blk_drew ?_ | refine blk_alloc ?_ _)); refine blk_far ?_ NB158_169.out _; (with_reducible repeat (first | refine blk_drewN ?_ _ | refine blk_drew ?_ | refine blk_alloc ?_ _)); exact BK158.out) hb); have n3_ := Aside0.mk (blk_below (g := gb160) (o := .cells #[.string (rdOf ByteArray.empty l0_10 ((rd_T54 l0_8 a1).f2.f0)), .int .i64 a0_6, .int .i64 ((rd_T54 l0_8 a1).f2.f0), .int .i64 ((rd_T54 l0_8 a1).f2.f1), .int .i64 ((rd_T54 l0_8 a1).f2.f2)] 62 (0, 0)) (by (with_reducible repeat (first | refine blk_drewN ?_ _ | refine blk_drew ?_ | refine blk_alloc ?_ _)); refine blk_far ?_ NB160_169.out _; (with_reducible repeat (first | refine blk_drewN ?_ _ | refine blk_drew ?_ | refine blk_alloc ?_ _)); refine blk_far ?_ NB160_169.out _; (with_reducible repeat (first | refine blk_drewN ?_ _ | refine blk_drew ?_ | refine blk_alloc ?_ _)); refine blk_far ?_ NB160_169.out _; (with_reducible repeat (first | refine blk_drewN ?_ _ | refine blk_drew ?_ | refine blk_alloc ?_ _)); refine blk_far ?_ NB160_169.out _; (with_reducible repeat (first | refine blk_drewN ?_ _ | refine blk_drew ?_ | refine blk_alloc ?_ _)); exact BK160.out) hb); have n4_ := Aside0.mk (blk_below (g := gb169) (o := .cells #[.int .i64 t165, .int .i64 t166, .int .i64 t167, .int .i64 t168] 32 (0, 0)) (by (with_reducible repeat (first | refine blk_drewN ?_ _ | refine blk_drew ?_ | refine blk_alloc ?_ _)); refine blk_put (cs := #[.int .i64 t165, .int .i64 t166, .int .i64 t167, .int .i64 0]) ?_ 3 _ rfl; (with_reducible repeat (first | refine blk_drewN ?_ _ | refine blk_drew ?_ | refine blk_alloc ?_ _)); refine blk_put (cs := #[.int .i64 t165, .int .i64 t166, .int .i64 0, .int .i64 0]) ?_ 2 _ rfl; (with_reducible repeat (first | refine blk_drewN ?_ _ | refine blk_drew ?_ | refine blk_alloc ?_ _)); refine blk_put (cs := #[.int .i64 t165, .int .i64 0, .int .i64 0, .int .i64 0]) ?_ 1 _ rfl; (with_reducible repeat (first | refine blk_drewN ?_ _ | refine blk_drew ?_ | refine blk_alloc ?_ _)); refine blk_put (cs := #[.int .i64 0, .int .i64 0, .int .i64 0, .int .i64 0]) ?_ 0 _ rfl; (with_reducible repeat (first | refine blk_drewN ?_ _ | refine blk_drew ?_ | refine blk_alloc ?_ _)); exact BK169.out) hb); have n5_ := Aside0.mk (below_step (by repeat (first | (with_reducible first | exact HB.out | apply below_alloc | apply pw_below_drewN | apply below_drew1 | refine below_set ?_ GE154.out | refine below_set ?_ GE155.out | refine below_set ?_ GE158.out | refine below_set ?_ GE160.out | refine below_set ?_ GE169.out) | exact HB.out)) hb); clear BK154; clear BK155; clear BK158; clear BK160; clear BK169; clear HB; have BK154 := n0_; have BK155 := n1_; have BK158 := n2_; have BK160 := n3_; have BK169 := n4_; have HB := n5_; clear n0_ n1_ n2_ n3_ n4_ n5_; (try clear hb); (try clear hb2); (try clear hk); (try clear hi); have hnb88 := NB155_154.out; have hnc88 := NB154_155.out; have hcz89_0 : w87.cell? ⟨gb155, 0, none⟩ = some (.int .i64 0) := (blk_cell BK155.out 0).trans rfl; have hcz89_1 : w87.cell? ⟨gb155, 1, none⟩ = some (.int .i64 0) := (blk_cell BK155.out 1).trans rfl; have hcz89_2 : w87.cell? ⟨gb155, 2, none⟩ = some (.int .i64 0) := (blk_cell BK155.out 2).trans rfl; have hcz89_3 : w87.cell? ⟨gb155, 3, none⟩ = some (.int .i64 0) := (blk_cell BK155.out 3).trans rfl; have hfz89_0 := blk_frozen BK155.out 0; have hfz89_1 := blk_frozen BK155.out 1; have hfz89_2 := blk_frozen BK155.out 2; have hfz89_3 := blk_frozen BK155.out 3))
                        refine bodyPost_ret (results_ct rfl _ _ gb155 32 #[.int .i64 t170, .int .i64 t171, .int .i64 t172, .int .i64 t173] (0, 0) _ rfl (by (with_reducible repeat (first | refine blk_drewN ?_ _ | refine blk_drew ?_ | refine blk_alloc ?_ _)); refine blk_put (cs := #[.int .i64 t170, .int .i64 t171, .int .i64 t172, .int .i64 0]) ?_ 3 _ rfl; (with_reducible repeat (first | refine blk_drewN ?_ _ | refine blk_drew ?_ | refine blk_alloc ?_ _)); refine blk_put (cs := #[.int .i64 t170, .int .i64 t171, .int .i64 0, .int .i64 0]) ?_ 2 _ rfl; (with_reducible repeat (first | refine blk_drewN ?_ _ | refine blk_drew ?_ | refine blk_alloc ?_ _)); refine blk_put (cs := #[.int .i64 t170, .int .i64 0, .int .i64 0, .int .i64 0]) ?_ 1 _ rfl; (with_reducible repeat (first | refine blk_drewN ?_ _ | refine blk_drew ?_ | refine blk_alloc ?_ _)); refine blk_put (cs := #[.int .i64 0, .int .i64 0, .int .i64 0, .int .i64 0]) ?_ 0 _ rfl; (with_reducible repeat (first | refine blk_drewN ?_ _ | refine blk_drew ?_ | refine blk_alloc ?_ _)); exact BK155.out) Tryd.underlying32 rfl (by kernel_rfl)) rfl ?_
                        exact ⟨by first | rfl | (simp [errW_none, errW_some] <;> rfl) | (simp [*, errW_none, errW_some] <;> rfl), by repeat (first | (with_reducible first | exact HB.out | apply below_alloc | apply pw_below_drewN | apply below_drew1 | refine below_set ?_ GE154.out | refine below_set ?_ GE155.out | refine below_set ?_ GE158.out | refine below_set ?_ GE160.out | refine below_set ?_ GE169.out) | exact HB.out)⟩
                      · rw [if_neg c61] at H
                        have c61b0 : (t164 == 0) = false := beq_eq_false_iff_ne.mpr c61
                        have c61b1 : (t164 != 0) = true := bne_iff_ne.mpr c61
                        replace H := Option.bind_eq_some_iff.mp H
                        obtain ⟨⟨t174, t175, t176, t177⟩, A900, H⟩ := H
                        replace H : ((sample_mixed.f t165 t166 t167 t168 t174 t175 t176 t177 t164).bind fun bt178 => (some (bt178.1, bt178.2.1, bt178.2.2.1, bt178.2.2.2, 0))) = some (r1, r2, r3, r4, r5) := H
                        have A90 := Aside0.mk A900
                        clear A900
                        replace H := Option.bind_eq_some_iff.mp H
                        obtain ⟨⟨t178, t179, t180, t181⟩, A910, H⟩ := H
                        replace H : (some (t178, t179, t180, t181, 0)) = some (r1, r2, r3, r4, r5) := H
                        have A91 := Aside0.mk A910
                        clear A910
                        simp only [Option.some.injEq, Prod.mk.injEq] at H
                        obtain ⟨rfl, rfl, rfl, rfl, rfl⟩ := H
                        try go_wp2
                        have n0_ := Aside0.mk (blk_drew BK154.out)
                        have n1_ := Aside0.mk (blk_drew BK155.out)
                        have n2_ := Aside0.mk (blk_drew BK158.out)
                        have n3_ := Aside0.mk (below_drew1 HB.out)
                        clear BK154
                        clear BK155
                        clear BK158
                        clear HB
                        have BK154 := n0_
                        have BK155 := n1_
                        have BK158 := n2_
                        have HB := n3_
                        clear n0_ n1_ n2_ n3_
                        have p159 : 0 ≤ (((rd_T54 l0_8 a1).f2.f0) : Int) := of_decide_eq_true (by first | (with_reducible assumption) | assumption)
                        have q159 : ((rd_T54 l0_8 a1).f2.f0) < (l0_10.length : Int) := of_decide_eq_true (by first | (with_reducible assumption) | assumption)
                        obtain ⟨ad159, e159, hx159_0⟩ := Kd.at_string HR0_10.out ((rd_T54 l0_8 a1).f2.f0) p159 q159
                        have hw159_0 := hx159_0
                        cases e159
                        replace hx159_0 := (HB.out.cell (World.block_lt_of_cell? w _ hx159_0)).trans hx159_0
                        replace p159 := eq_true p159
                        replace q159 := eq_true q159
                        refine start_ (n := 15) (S := fun w' => w'.cell? ⟨gb154, 0, none⟩ = some (.int .i64 a0_0) ∧ w'.cell? ⟨gb154, 1, none⟩ = some (.int .i64 a0_1) ∧ w'.cell? ⟨gb154, 2, none⟩ = some (.int .i64 a0_2) ∧ w'.cell? ⟨gb154, 3, none⟩ = some (.int .i64 a0_3) ∧ w'.cell? ⟨gb154, 4, none⟩ = some (.int .i64 a0_4) ∧ w'.cell? ⟨gb154, 5, none⟩ = some (.int .i64 a0_5) ∧ w'.cell? ⟨gb154, 6, none⟩ = some (.int .i64 a0_6) ∧ w'.cell? ⟨gb154, 7, none⟩ = some (.int .i64 a0_7) ∧ w'.cell? ⟨gb154, 8, none⟩ = some (.slice (some ad157) l0_8.length c0_8) ∧ w'.cell? ⟨gb154, 9, none⟩ = some (.slice A0_9 l0_9.length c0_9) ∧ w'.cell? ⟨gb154, 10, none⟩ = some (.slice (some ad159) l0_10.length c0_10) ∧ w'.cell? ⟨gb158, 0, none⟩ = some (.int .i64 ((rd_T54 l0_8 a1).f0)) ∧ w'.cell? ⟨gb158, 1, none⟩ = some (.int .i64 ((rd_T54 l0_8 a1).f1.f0)) ∧ w'.cell? ⟨gb158, 2, none⟩ = some (.int .i64 ((rd_T54 l0_8 a1).f1.f1)) ∧ w'.cell? ⟨gb158, 3, none⟩ = some (.int .i64 ((rd_T54 l0_8 a1).f1.f2)) ∧ w'.cell? ⟨gb158, 4, none⟩ = some (.int .i64 ((rd_T54 l0_8 a1).f1.f3)) ∧ w'.cell? ⟨gb158, 5, none⟩ = some (.int .i64 ((rd_T54 l0_8 a1).f2.f0)) ∧ w'.cell? ⟨gb158, 6, none⟩ = some (.int .i64 ((rd_T54 l0_8 a1).f2.f1)) ∧ w'.cell? ⟨gb158, 7, none⟩ = some (.int .i64 ((rd_T54 l0_8 a1).f2.f2)) ∧ w'.cell? (ad159.add (((rd_T54 l0_8 a1).f2.f0)).toNat) = some (.string (rdOf ByteArray.empty l0_10 ((rd_T54 l0_8 a1).f2.f0)))) (ds := []) #[false, false, false, false, false, false, false, false, false, false, false, false, false, false, false] (by kernel_rfl) rfl rfl ⟨(blk_cell BK154.out 0).trans rfl, (blk_cell BK154.out 1).trans rfl, (blk_cell BK154.out 2).trans rfl, (blk_cell BK154.out 3).trans rfl, (blk_cell BK154.out 4).trans rfl, (blk_cell BK154.out 5).trans rfl, (blk_cell BK154.out 6).trans rfl, (blk_cell BK154.out 7).trans rfl, (blk_cell BK154.out 8).trans rfl, (blk_cell BK154.out 9).trans rfl, (blk_cell BK154.out 10).trans rfl, (blk_cell BK158.out 0).trans rfl, (blk_cell BK158.out 1).trans rfl, (blk_cell BK158.out 2).trans rfl, (blk_cell BK158.out 3).trans rfl, (blk_cell BK158.out 4).trans rfl, (blk_cell BK158.out 5).trans rfl, (blk_cell BK158.out 6).trans rfl, (blk_cell BK158.out 7).trans rfl, ((HB.out.cell (World.block_lt_of_cell? w _ hw159_0)).trans hw159_0)⟩ (fun hHeld => ?_); refine with_tabW sample_At.tab6 sample_At.bits6 (fun HT_ HW_ => ?_)
                        generalize wc.drew = w92 at BK154 BK155 BK158 HB hx159_0 hHeld ⊢
                        refine pure_ (i := 0) (N := some 68) (v := ?_) (a' := ?_) #[true, false, false, false, false, false, false, false, false, false, false, false, false, false, false] rfl rfl (any_of HT_.out (by kernel_rfl)) (fun _ _ _ h => h) (Or.inl ⟨by rfl, ?_⟩) ?_ ?_
                        rotate_left
                        · intro w'
                          go_simp
                          with_reducible rfl
                        rotate_left
                        · simp only [Act.put, List.setIfInBounds_toArray, List.set_cons_zero, List.set_cons_succ, i64_w, i32_w]
                          rfl
                        refine pure_ (i := 2) (N := some 70) (v := ?_) (a' := ?_) #[true, false, true, false, false, false, false, false, false, false, false, false, false, false, false] rfl rfl (any_of HT_.out (by kernel_rfl)) (fun _ _ _ h => h) (Or.inl ⟨by rfl, ?_⟩) ?_ ?_
                        rotate_left
                        · intro w'
                          go_simp
                          with_reducible rfl
                        rotate_left
                        · simp only [Act.put, List.setIfInBounds_toArray, List.set_cons_zero, List.set_cons_succ, i64_w, i32_w]
                          rfl
                        refine pure_ (i := 3) (N := some 71) (v := ?_) (a' := ?_) #[true, false, true, true, false, false, false, false, false, false, false, false, false, false, false] rfl rfl (any_of HT_.out (by kernel_rfl)) (fun _ _ _ h => h) (Or.inl ⟨by rfl, ?_⟩) ?_ ?_
                        rotate_left
                        · intro w'
                          go_simp
                          with_reducible rfl
                        rotate_left
                        · simp only [Act.put, List.setIfInBounds_toArray, List.set_cons_zero, List.set_cons_succ, i64_w, i32_w]
                          rfl
                        refine pure_ (i := 7) (N := some 75) (v := ?_) (a' := ?_) #[true, false, true, true, false, false, false, true, false, false, false, false, false, false, false] rfl rfl (any_of HT_.out (by kernel_rfl)) (fun _ _ _ h => h) (Or.inl ⟨by rfl, ?_⟩) ?_ ?_
                        rotate_left
                        · intro w'
                          go_simp
                          with_reducible rfl
                        rotate_left
                        · simp only [Act.put, List.setIfInBounds_toArray, List.set_cons_zero, List.set_cons_succ, i64_w, i32_w]
                          rfl
                        refine pure_ (i := 8) (N := some 76) (v := ?_) (a' := ?_) #[true, false, true, true, false, false, false, true, true, false, false, false, false, false, false] rfl rfl (any_of HT_.out (by kernel_rfl)) (fun _ _ _ h => h) (Or.inl ⟨by rfl, ?_⟩) ?_ ?_
                        rotate_left
                        · intro w'
                          go_simp
                          with_reducible rfl
                        rotate_left
                        · simp only [Act.put, List.setIfInBounds_toArray, List.set_cons_zero, List.set_cons_succ, i64_w, i32_w]
                          rfl
                        refine pure_ (i := 10) (N := some 78) (v := ?_) (a' := ?_) #[true, false, true, true, false, false, false, true, true, false, true, false, false, false, false] rfl rfl (any_of HT_.out (by kernel_rfl)) (fun _ _ _ h => h) (Or.inl ⟨by rfl, ?_⟩) ?_ ?_
                        rotate_left
                        · intro w'
                          go_simp
                          with_reducible rfl
                        rotate_left
                        · simp only [Act.put, List.setIfInBounds_toArray, List.set_cons_zero, List.set_cons_succ, i64_w, i32_w]
                          rfl
                        refine take_ (i := 1) (N := some 69) (v := ?_) (a' := ?_) #[true, true, true, true, false, false, false, true, true, false, true, false, false, false, false] rfl rfl (take_ofW HT_.out HW_.out (by kernel_rfl)) (fun _ _ _ h => h) (Or.inl ⟨by rfl, ?_⟩) hHeld ?_ ?_
                        rotate_left
                        · rintro w' ⟨s0, s1, s2, s3, s4, s5, s6, s7, s8, s9, s10, s11, s12, s13, s14, s15, s16, s17, s18, s19⟩
                          go_simp
                          with_reducible rfl
                        rotate_left
                        · simp only [Act.put, List.setIfInBounds_toArray, List.set_cons_zero, List.set_cons_succ, i64_w, i32_w]
                          rfl
                        refine take_ (i := 4) (N := some 72) (v := ?_) (a' := ?_) #[true, true, true, true, true, false, false, true, true, false, true, false, false, false, false] rfl rfl (take_ofW HT_.out HW_.out (by kernel_rfl)) (fun _ _ _ h => h) (Or.inl ⟨by rfl, ?_⟩) hHeld ?_ ?_
                        rotate_left
                        · rintro w' ⟨s0, s1, s2, s3, s4, s5, s6, s7, s8, s9, s10, s11, s12, s13, s14, s15, s16, s17, s18, s19⟩
                          go_simp
                          with_reducible rfl
                        rotate_left
                        · simp only [Act.put, List.setIfInBounds_toArray, List.set_cons_zero, List.set_cons_succ, i64_w, i32_w]
                          rfl
                        refine pure_ (i := 5) (N := some 73) (v := ?_) (a' := ?_) #[true, true, true, true, true, true, false, true, true, false, true, false, false, false, false] rfl rfl (any_of HT_.out (by kernel_rfl)) (fun _ _ _ h => h) (Or.inl ⟨by rfl, ?_⟩) ?_ ?_
                        rotate_left
                        · intro w'
                          go_simp
                          with_reducible rfl
                        rotate_left
                        · simp only [Act.put, List.setIfInBounds_toArray, List.set_cons_zero, List.set_cons_succ, i64_w, i32_w]
                          rfl
                        refine take_ (i := 6) (N := some 74) (v := ?_) (a' := ?_) #[true, true, true, true, true, true, true, true, true, false, true, false, false, false, false] rfl rfl (take_ofW HT_.out HW_.out (by kernel_rfl)) (fun _ _ _ h => h) (Or.inl ⟨by rfl, ?_⟩) hHeld ?_ ?_
                        rotate_left
                        · rintro w' ⟨s0, s1, s2, s3, s4, s5, s6, s7, s8, s9, s10, s11, s12, s13, s14, s15, s16, s17, s18, s19⟩
                          go_simp
                          with_reducible rfl
                        rotate_left
                        · simp only [Act.put, List.setIfInBounds_toArray, List.set_cons_zero, List.set_cons_succ, i64_w, i32_w]
                          rfl
                        refine take_ (i := 9) (N := some 77) (v := ?_) (a' := ?_) #[true, true, true, true, true, true, true, true, true, true, true, false, false, false, false] rfl rfl (take_ofW HT_.out HW_.out (by kernel_rfl)) (fun _ _ _ h => h) (Or.inl ⟨by rfl, ?_⟩) hHeld ?_ ?_
                        rotate_left
                        · rintro w' ⟨s0, s1, s2, s3, s4, s5, s6, s7, s8, s9, s10, s11, s12, s13, s14, s15, s16, s17, s18, s19⟩
                          go_simp
                          with_reducible rfl
                        rotate_left
                        · simp only [Act.put, List.setIfInBounds_toArray, List.set_cons_zero, List.set_cons_succ, i64_w, i32_w]
                          rfl
                        refine take_ (i := 11) (N := some 79) (v := ?_) (a' := ?_) #[true, true, true, true, true, true, true, true, true, true, true, true, false, false, false] rfl rfl (take_ofW HT_.out HW_.out (by kernel_rfl)) (fun _ _ _ h => h) (Or.inl ⟨by rfl, ?_⟩) hHeld ?_ ?_
                        rotate_left
                        · rintro w' ⟨s0, s1, s2, s3, s4, s5, s6, s7, s8, s9, s10, s11, s12, s13, s14, s15, s16, s17, s18, s19⟩
                          go_simp
                          with_reducible rfl
                        rotate_left
                        · simp only [Act.put, List.setIfInBounds_toArray, List.set_cons_zero, List.set_cons_succ, i64_w, i32_w]
                          rfl
                        refine pure_ (i := 12) (N := some 80) (v := ?_) (a' := ?_) #[true, true, true, true, true, true, true, true, true, true, true, true, true, false, false] rfl rfl (any_of HT_.out (by kernel_rfl)) (fun _ _ _ h => h) (Or.inl ⟨by rfl, ?_⟩) ?_ ?_
                        rotate_left
                        · intro w'
                          go_simp
                          with_reducible rfl
                        rotate_left
                        · simp only [Act.put, List.setIfInBounds_toArray, List.set_cons_zero, List.set_cons_succ, i64_w, i32_w]
                          rfl
                        refine one_ (i := 13) (N := some 11) #[true, true, true, true, true, true, true, true, true, true, true, true, true, true, false] rfl rfl (one_of HT_.out (by kernel_rfl)) (by decide) (fun K hK => ?_)
                        refine box_step ?hg (N := 11) ?hd (cs := #[.string (⟨#[]⟩ : ByteArray), .int .i64 0, .int .i64 0, .int .i64 0, .int .i64 0]) (t := 62) ?hr ?_; (case hd => rfl); (case hg => rfl); (case hr => first | (go_simp; done) | (go_simp; rfl))
                        intro gb160 hg w93 hbox hb
                        have n0_ := Aside0.mk (blk_below (g := gb154) (o := .cells #[.int .i64 a0_0, .int .i64 a0_1, .int .i64 a0_2, .int .i64 a0_3, .int .i64 a0_4, .int .i64 a0_5, .int .i64 a0_6, .int .i64 a0_7, .slice (some ad157) l0_8.length c0_8, .slice A0_9 l0_9.length c0_9, .slice (some ad159) l0_10.length c0_10] 28 (0, 0)) (by (with_reducible repeat (first | refine blk_drewN ?_ _ | refine blk_drew ?_ | refine blk_alloc ?_ _)); exact BK154.out) hb)
                        have n1_ := Aside0.mk (blk_below (g := gb155) (o := .cells #[.int .i64 0, .int .i64 0, .int .i64 0, .int .i64 0] 32 (0, 0)) (by (with_reducible repeat (first | refine blk_drewN ?_ _ | refine blk_drew ?_ | refine blk_alloc ?_ _)); exact BK155.out) hb)
                        have n2_ := Aside0.mk (blk_below (g := gb158) (o := .cells #[.int .i64 ((rd_T54 l0_8 a1).f0), .int .i64 ((rd_T54 l0_8 a1).f1.f0), .int .i64 ((rd_T54 l0_8 a1).f1.f1), .int .i64 ((rd_T54 l0_8 a1).f1.f2), .int .i64 ((rd_T54 l0_8 a1).f1.f3), .int .i64 ((rd_T54 l0_8 a1).f2.f0), .int .i64 ((rd_T54 l0_8 a1).f2.f1), .int .i64 ((rd_T54 l0_8 a1).f2.f2)] 54 (0, 0)) (by (with_reducible repeat (first | refine blk_drewN ?_ _ | refine blk_drew ?_ | refine blk_alloc ?_ _)); exact BK158.out) hb)
                        have n3_ := Aside0.mk (below_step (by repeat (first | (with_reducible first | exact HB.out | apply below_alloc | apply pw_below_drewN | apply below_drew1 | refine below_set ?_ GE154.out | refine below_set ?_ GE155.out | refine below_set ?_ GE158.out) | exact HB.out)) hb)
                        have n4_ := Aside0.mk (hbox)
                        have n5_ := Aside0.mk ((by rw [hg]; exact (below_size (by repeat (first | (with_reducible first | exact HB.out | apply below_alloc | apply pw_below_drewN | apply below_drew1 | refine below_set ?_ GE154.out | refine below_set ?_ GE155.out | refine below_set ?_ GE158.out) | exact HB.out))) : w.heap.size ≤ gb160))
                        have n6_ := Aside0.mk ((by rw [hg]; exact (below_size (by repeat (first | (with_reducible first | exact HB.out | apply below_alloc | apply pw_below_drewN | apply below_drew1 | refine below_set ?_ GE154.out | refine below_set ?_ GE155.out | refine below_set ?_ GE158.out) | exact HB.out))) : w.heap.size ≤ gb160))
                        have n7_ := Aside0.mk ((by rw [hg]; exact Nat.ne_of_lt (blk_lt (g := gb154) (o := .cells #[.int .i64 a0_0, .int .i64 a0_1, .int .i64 a0_2, .int .i64 a0_3, .int .i64 a0_4, .int .i64 a0_5, .int .i64 a0_6, .int .i64 a0_7, .slice (some ad157) l0_8.length c0_8, .slice A0_9 l0_9.length c0_9, .slice (some ad159) l0_10.length c0_10] 28 (0, 0)) (by (with_reducible repeat (first | refine blk_drewN ?_ _ | refine blk_drew ?_ | refine blk_alloc ?_ _)); exact BK154.out)) : gb154 ≠ gb160))
                        have n8_ := Aside0.mk ((by rw [hg]; exact Nat.ne_of_gt (blk_lt (g := gb154) (o := .cells #[.int .i64 a0_0, .int .i64 a0_1, .int .i64 a0_2, .int .i64 a0_3, .int .i64 a0_4, .int .i64 a0_5, .int .i64 a0_6, .int .i64 a0_7, .slice (some ad157) l0_8.length c0_8, .slice A0_9 l0_9.length c0_9, .slice (some ad159) l0_10.length c0_10] 28 (0, 0)) (by (with_reducible repeat (first | refine blk_drewN ?_ _ | refine blk_drew ?_ | refine blk_alloc ?_ _)); exact BK154.out)) : gb160 ≠ gb154))
                        have n9_ := Aside0.mk ((by rw [hg]; exact Nat.ne_of_lt (blk_lt (g := gb155) (o := .cells #[.int .i64 0, .int .i64 0, .int .i64 0, .int .i64 0] 32 (0, 0)) (by (with_reducible repeat (first | refine blk_drewN ?_ _ | refine blk_drew ?_ | refine blk_alloc ?_ _)); exact BK155.out)) : gb155 ≠ gb160))
                        have n10_ := Aside0.mk ((by rw [hg]; exact Nat.ne_of_gt (blk_lt (g := gb155) (o := .cells #[.int .i64 0, .int .i64 0, .int .i64 0, .int .i64 0] 32 (0, 0)) (by (with_reducible repeat (first | refine blk_drewN ?_ _ | refine blk_drew ?_ | refine blk_alloc ?_ _)); exact BK155.out)) : gb160 ≠ gb155))
                        have n11_ := Aside0.mk ((by rw [hg]; exact Nat.ne_of_lt (blk_lt (g := gb158) (o := .cells #[.int .i64 ((rd_T54 l0_8 a1).f0), .int .i64 ((rd_T54 l0_8 a1).f1.f0), .int .i64 ((rd_T54 l0_8 a1).f1.f1), .int .i64 ((rd_T54 l0_8 a1).f1.f2), .int .i64 ((rd_T54 l0_8 a1).f1.f3), .int .i64 ((rd_T54 l0_8 a1).f2.f0), .int .i64 ((rd_T54 l0_8 a1).f2.f1), .int .i64 ((rd_T54 l0_8 a1).f2.f2)] 54 (0, 0)) (by (with_reducible repeat (first | refine blk_drewN ?_ _ | refine blk_drew ?_ | refine blk_alloc ?_ _)); exact BK158.out)) : gb158 ≠ gb160))
                        have n12_ := Aside0.mk ((by rw [hg]; exact Nat.ne_of_gt (blk_lt (g := gb158) (o := .cells #[.int .i64 ((rd_T54 l0_8 a1).f0), .int .i64 ((rd_T54 l0_8 a1).f1.f0), .int .i64 ((rd_T54 l0_8 a1).f1.f1), .int .i64 ((rd_T54 l0_8 a1).f1.f2), .int .i64 ((rd_T54 l0_8 a1).f1.f3), .int .i64 ((rd_T54 l0_8 a1).f2.f0), .int .i64 ((rd_T54 l0_8 a1).f2.f1), .int .i64 ((rd_T54 l0_8 a1).f2.f2)] 54 (0, 0)) (by (with_reducible repeat (first | refine blk_drewN ?_ _ | refine blk_drew ?_ | refine blk_alloc ?_ _)); exact BK158.out)) : gb160 ≠ gb158))
                        clear BK154
                        clear BK155
                        clear BK158
                        clear HB
                        have BK154 := n0_
                        have BK155 := n1_
                        have BK158 := n2_
                        have HB := n3_
                        have BK160 := n4_
                        have GW160 := n5_
                        have GE160 := n6_
                        have NB154_160 := n7_
                        have NB160_154 := n8_
                        have NB155_160 := n9_
                        have NB160_155 := n10_
                        have NB158_160 := n11_
                        have NB160_158 := n12_
                        clear n0_ n1_ n2_ n3_ n4_ n5_ n6_ n7_ n8_ n9_ n10_ n11_ n12_
                        clear hb hbox hg
                        refine hK.out _ _ ⟨(blk_cell BK154.out 0).trans rfl, (blk_cell BK154.out 1).trans rfl, (blk_cell BK154.out 2).trans rfl, (blk_cell BK154.out 3).trans rfl, (blk_cell BK154.out 4).trans rfl, (blk_cell BK154.out 5).trans rfl, (blk_cell BK154.out 6).trans rfl, (blk_cell BK154.out 7).trans rfl, (blk_cell BK154.out 8).trans rfl, (blk_cell BK154.out 9).trans rfl, (blk_cell BK154.out 10).trans rfl, (blk_cell BK158.out 0).trans rfl, (blk_cell BK158.out 1).trans rfl, (blk_cell BK158.out 2).trans rfl, (blk_cell BK158.out 3).trans rfl, (blk_cell BK158.out 4).trans rfl, (blk_cell BK158.out 5).trans rfl, (blk_cell BK158.out 6).trans rfl, (blk_cell BK158.out 7).trans rfl, ((HB.out.cell (World.block_lt_of_cell? w _ hw159_0)).trans hw159_0)⟩ (fun hHeld => ?_)
                        clear hK K
                        refine norm_ (a' := ?_) ?_ ?_
                        rotate_left
                        · show Act.put _ (some 11) _ = _
                          simp only [Act.put, List.setIfInBounds_toArray, List.set_cons_zero, List.set_cons_succ, i64_w, i32_w]
                          rfl
                        refine one_ (i := 14) (N := none) #[true, true, true, true, true, true, true, true, true, true, true, true, true, true, true] rfl rfl (one_of HT_.out (by kernel_rfl)) (by decide) (fun K hK => ?_)
                        have hs94 : w93.cell? ⟨gb160, 0, none⟩ = some (.string (⟨#[]⟩ : ByteArray)) := (blk_cell BK160.out 0).trans rfl
                        have hfs94 := blk_frozen BK160.out 0
                        have hns94_0 := NB154_160.out
                        have hns94_1 := NB155_160.out
                        have hns94_2 := NB158_160.out
                        have hms94_0 := NB160_154.out
                        have hms94_1 := NB160_155.out
                        have hms94_2 := NB160_158.out
                        have hs95 : w93.cell? ⟨gb160, 1, none⟩ = some (.int .i64 0) := (blk_cell BK160.out 1).trans rfl
                        have hfs95 := blk_frozen BK160.out 1
                        have hns95_0 := NB154_160.out
                        have hns95_1 := NB155_160.out
                        have hns95_2 := NB158_160.out
                        have hms95_0 := NB160_154.out
                        have hms95_1 := NB160_155.out
                        have hms95_2 := NB160_158.out
                        have hs96 : w93.cell? ⟨gb160, 2, none⟩ = some (.int .i64 0) := (blk_cell BK160.out 2).trans rfl
                        have hfs96 := blk_frozen BK160.out 2
                        have hns96_0 := NB154_160.out
                        have hns96_1 := NB155_160.out
                        have hns96_2 := NB158_160.out
                        have hms96_0 := NB160_154.out
                        have hms96_1 := NB160_155.out
                        have hms96_2 := NB160_158.out
                        have hs97 : w93.cell? ⟨gb160, 3, none⟩ = some (.int .i64 0) := (blk_cell BK160.out 3).trans rfl
                        have hfs97 := blk_frozen BK160.out 3
                        have hns97_0 := NB154_160.out
                        have hns97_1 := NB155_160.out
                        have hns97_2 := NB158_160.out
                        have hms97_0 := NB160_154.out
                        have hms97_1 := NB160_155.out
                        have hms97_2 := NB160_158.out
                        have hs98 : w93.cell? ⟨gb160, 4, none⟩ = some (.int .i64 0) := (blk_cell BK160.out 4).trans rfl
                        have hfs98 := blk_frozen BK160.out 4
                        have hns98_0 := NB154_160.out
                        have hns98_1 := NB155_160.out
                        have hns98_2 := NB158_160.out
                        have hms98_0 := NB160_154.out
                        have hms98_1 := NB160_155.out
                        have hms98_2 := NB160_158.out
                        refine skip_ (w1 := ?_) (by rfl) rfl ?_ ?_
                        rotate_left
                        · go_simp
                          rfl
                        refine hK.out _ _ ⟨((cell_far (p := ⟨gb160, _, none⟩) NB154_160.out _).trans (((cell_far (p := ⟨gb160, _, none⟩) NB154_160.out _).trans (((cell_far (p := ⟨gb160, _, none⟩) NB154_160.out _).trans (((cell_far (p := ⟨gb160, _, none⟩) NB154_160.out _).trans (((cell_far (p := ⟨gb160, _, none⟩) NB154_160.out _).trans (hHeld.1)))))))))), ((cell_far (p := ⟨gb160, _, none⟩) NB154_160.out _).trans (((cell_far (p := ⟨gb160, _, none⟩) NB154_160.out _).trans (((cell_far (p := ⟨gb160, _, none⟩) NB154_160.out _).trans (((cell_far (p := ⟨gb160, _, none⟩) NB154_160.out _).trans (((cell_far (p := ⟨gb160, _, none⟩) NB154_160.out _).trans (hHeld.2.1)))))))))), ((cell_far (p := ⟨gb160, _, none⟩) NB154_160.out _).trans (((cell_far (p := ⟨gb160, _, none⟩) NB154_160.out _).trans (((cell_far (p := ⟨gb160, _, none⟩) NB154_160.out _).trans (((cell_far (p := ⟨gb160, _, none⟩) NB154_160.out _).trans (((cell_far (p := ⟨gb160, _, none⟩) NB154_160.out _).trans (hHeld.2.2.1)))))))))), ((cell_far (p := ⟨gb160, _, none⟩) NB154_160.out _).trans (((cell_far (p := ⟨gb160, _, none⟩) NB154_160.out _).trans (((cell_far (p := ⟨gb160, _, none⟩) NB154_160.out _).trans (((cell_far (p := ⟨gb160, _, none⟩) NB154_160.out _).trans (((cell_far (p := ⟨gb160, _, none⟩) NB154_160.out _).trans (hHeld.2.2.2.1)))))))))), ((cell_far (p := ⟨gb160, _, none⟩) NB154_160.out _).trans (((cell_far (p := ⟨gb160, _, none⟩) NB154_160.out _).trans (((cell_far (p := ⟨gb160, _, none⟩) NB154_160.out _).trans (((cell_far (p := ⟨gb160, _, none⟩) NB154_160.out _).trans (((cell_far (p := ⟨gb160, _, none⟩) NB154_160.out _).trans (hHeld.2.2.2.2.1)))))))))), ((cell_far (p := ⟨gb160, _, none⟩) NB154_160.out _).trans (((cell_far (p := ⟨gb160, _, none⟩) NB154_160.out _).trans (((cell_far (p := ⟨gb160, _, none⟩) NB154_160.out _).trans (((cell_far (p := ⟨gb160, _, none⟩) NB154_160.out _).trans (((cell_far (p := ⟨gb160, _, none⟩) NB154_160.out _).trans (hHeld.2.2.2.2.2.1)))))))))), ((cell_far (p := ⟨gb160, _, none⟩) NB154_160.out _).trans (((cell_far (p := ⟨gb160, _, none⟩) NB154_160.out _).trans (((cell_far (p := ⟨gb160, _, none⟩) NB154_160.out _).trans (((cell_far (p := ⟨gb160, _, none⟩) NB154_160.out _).trans (((cell_far (p := ⟨gb160, _, none⟩) NB154_160.out _).trans (hHeld.2.2.2.2.2.2.1)))))))))), ((cell_far (p := ⟨gb160, _, none⟩) NB154_160.out _).trans (((cell_far (p := ⟨gb160, _, none⟩) NB154_160.out _).trans (((cell_far (p := ⟨gb160, _, none⟩) NB154_160.out _).trans (((cell_far (p := ⟨gb160, _, none⟩) NB154_160.out _).trans (((cell_far (p := ⟨gb160, _, none⟩) NB154_160.out _).trans (hHeld.2.2.2.2.2.2.2.1)))))))))), ((cell_far (p := ⟨gb160, _, none⟩) NB154_160.out _).trans (((cell_far (p := ⟨gb160, _, none⟩) NB154_160.out _).trans (((cell_far (p := ⟨gb160, _, none⟩) NB154_160.out _).trans (((cell_far (p := ⟨gb160, _, none⟩) NB154_160.out _).trans (((cell_far (p := ⟨gb160, _, none⟩) NB154_160.out _).trans (hHeld.2.2.2.2.2.2.2.2.1)))))))))), ((cell_far (p := ⟨gb160, _, none⟩) NB154_160.out _).trans (((cell_far (p := ⟨gb160, _, none⟩) NB154_160.out _).trans (((cell_far (p := ⟨gb160, _, none⟩) NB154_160.out _).trans (((cell_far (p := ⟨gb160, _, none⟩) NB154_160.out _).trans (((cell_far (p := ⟨gb160, _, none⟩) NB154_160.out _).trans (hHeld.2.2.2.2.2.2.2.2.2.1)))))))))), ((cell_far (p := ⟨gb160, _, none⟩) NB154_160.out _).trans (((cell_far (p := ⟨gb160, _, none⟩) NB154_160.out _).trans (((cell_far (p := ⟨gb160, _, none⟩) NB154_160.out _).trans (((cell_far (p := ⟨gb160, _, none⟩) NB154_160.out _).trans (((cell_far (p := ⟨gb160, _, none⟩) NB154_160.out _).trans (hHeld.2.2.2.2.2.2.2.2.2.2.1)))))))))), ((cell_far (p := ⟨gb160, _, none⟩) NB158_160.out _).trans (((cell_far (p := ⟨gb160, _, none⟩) NB158_160.out _).trans (((cell_far (p := ⟨gb160, _, none⟩) NB158_160.out _).trans (((cell_far (p := ⟨gb160, _, none⟩) NB158_160.out _).trans (((cell_far (p := ⟨gb160, _, none⟩) NB158_160.out _).trans (hHeld.2.2.2.2.2.2.2.2.2.2.2.1)))))))))), ((cell_far (p := ⟨gb160, _, none⟩) NB158_160.out _).trans (((cell_far (p := ⟨gb160, _, none⟩) NB158_160.out _).trans (((cell_far (p := ⟨gb160, _, none⟩) NB158_160.out _).trans (((cell_far (p := ⟨gb160, _, none⟩) NB158_160.out _).trans (((cell_far (p := ⟨gb160, _, none⟩) NB158_160.out _).trans (hHeld.2.2.2.2.2.2.2.2.2.2.2.2.1)))))))))), ((cell_far (p := ⟨gb160, _, none⟩) NB158_160.out _).trans (((cell_far (p := ⟨gb160, _, none⟩) NB158_160.out _).trans (((cell_far (p := ⟨gb160, _, none⟩) NB158_160.out _).trans (((cell_far (p := ⟨gb160, _, none⟩) NB158_160.out _).trans (((cell_far (p := ⟨gb160, _, none⟩) NB158_160.out _).trans (hHeld.2.2.2.2.2.2.2.2.2.2.2.2.2.1)))))))))), ((cell_far (p := ⟨gb160, _, none⟩) NB158_160.out _).trans (((cell_far (p := ⟨gb160, _, none⟩) NB158_160.out _).trans (((cell_far (p := ⟨gb160, _, none⟩) NB158_160.out _).trans (((cell_far (p := ⟨gb160, _, none⟩) NB158_160.out _).trans (((cell_far (p := ⟨gb160, _, none⟩) NB158_160.out _).trans (hHeld.2.2.2.2.2.2.2.2.2.2.2.2.2.2.1)))))))))), ((cell_far (p := ⟨gb160, _, none⟩) NB158_160.out _).trans (((cell_far (p := ⟨gb160, _, none⟩) NB158_160.out _).trans (((cell_far (p := ⟨gb160, _, none⟩) NB158_160.out _).trans (((cell_far (p := ⟨gb160, _, none⟩) NB158_160.out _).trans (((cell_far (p := ⟨gb160, _, none⟩) NB158_160.out _).trans (hHeld.2.2.2.2.2.2.2.2.2.2.2.2.2.2.2.1)))))))))), ((cell_far (p := ⟨gb160, _, none⟩) NB158_160.out _).trans (((cell_far (p := ⟨gb160, _, none⟩) NB158_160.out _).trans (((cell_far (p := ⟨gb160, _, none⟩) NB158_160.out _).trans (((cell_far (p := ⟨gb160, _, none⟩) NB158_160.out _).trans (((cell_far (p := ⟨gb160, _, none⟩) NB158_160.out _).trans (hHeld.2.2.2.2.2.2.2.2.2.2.2.2.2.2.2.2.1)))))))))), ((cell_far (p := ⟨gb160, _, none⟩) NB158_160.out _).trans (((cell_far (p := ⟨gb160, _, none⟩) NB158_160.out _).trans (((cell_far (p := ⟨gb160, _, none⟩) NB158_160.out _).trans (((cell_far (p := ⟨gb160, _, none⟩) NB158_160.out _).trans (((cell_far (p := ⟨gb160, _, none⟩) NB158_160.out _).trans (hHeld.2.2.2.2.2.2.2.2.2.2.2.2.2.2.2.2.2.1)))))))))), ((cell_far (p := ⟨gb160, _, none⟩) NB158_160.out _).trans (((cell_far (p := ⟨gb160, _, none⟩) NB158_160.out _).trans (((cell_far (p := ⟨gb160, _, none⟩) NB158_160.out _).trans (((cell_far (p := ⟨gb160, _, none⟩) NB158_160.out _).trans (((cell_far (p := ⟨gb160, _, none⟩) NB158_160.out _).trans (hHeld.2.2.2.2.2.2.2.2.2.2.2.2.2.2.2.2.2.2.1)))))))))), ((cell_far (p := ⟨gb160, _, none⟩) (by first | exact Nat.ne_of_lt (Nat.lt_of_lt_of_le (by have := World.block_lt_of_cell? _ _ hw159_0; first | rwa [add_block] at this | exact this) GW160.out) | (rw [add_block]; exact Nat.ne_of_lt (Nat.lt_of_lt_of_le (by have := World.block_lt_of_cell? _ _ hw159_0; first | rwa [add_block] at this | exact this) GW160.out)) | (show (Addr.add _ _).block ≠ _; rw [add_block]; exact Nat.ne_of_lt (Nat.lt_of_lt_of_le (by have := World.block_lt_of_cell? _ _ hw159_0; first | rwa [add_block] at this | exact this) GW160.out)) | (dsimp only; exact Nat.ne_of_lt (Nat.lt_of_lt_of_le (by have := World.block_lt_of_cell? _ _ hw159_0; first | rwa [add_block] at this | exact this) GW160.out))) _).trans (((cell_far (p := ⟨gb160, _, none⟩) (by first | exact Nat.ne_of_lt (Nat.lt_of_lt_of_le (by have := World.block_lt_of_cell? _ _ hw159_0; first | rwa [add_block] at this | exact this) GW160.out) | (rw [add_block]; exact Nat.ne_of_lt (Nat.lt_of_lt_of_le (by have := World.block_lt_of_cell? _ _ hw159_0; first | rwa [add_block] at this | exact this) GW160.out)) | (show (Addr.add _ _).block ≠ _; rw [add_block]; exact Nat.ne_of_lt (Nat.lt_of_lt_of_le (by have := World.block_lt_of_cell? _ _ hw159_0; first | rwa [add_block] at this | exact this) GW160.out)) | (dsimp only; exact Nat.ne_of_lt (Nat.lt_of_lt_of_le (by have := World.block_lt_of_cell? _ _ hw159_0; first | rwa [add_block] at this | exact this) GW160.out))) _).trans (((cell_far (p := ⟨gb160, _, none⟩) (by first | exact Nat.ne_of_lt (Nat.lt_of_lt_of_le (by have := World.block_lt_of_cell? _ _ hw159_0; first | rwa [add_block] at this | exact this) GW160.out) | (rw [add_block]; exact Nat.ne_of_lt (Nat.lt_of_lt_of_le (by have := World.block_lt_of_cell? _ _ hw159_0; first | rwa [add_block] at this | exact this) GW160.out)) | (show (Addr.add _ _).block ≠ _; rw [add_block]; exact Nat.ne_of_lt (Nat.lt_of_lt_of_le (by have := World.block_lt_of_cell? _ _ hw159_0; first | rwa [add_block] at this | exact this) GW160.out)) | (dsimp only; exact Nat.ne_of_lt (Nat.lt_of_lt_of_le (by have := World.block_lt_of_cell? _ _ hw159_0; first | rwa [add_block] at this | exact this) GW160.out))) _).trans (((cell_far (p := ⟨gb160, _, none⟩) (by first | exact Nat.ne_of_lt (Nat.lt_of_lt_of_le (by have := World.block_lt_of_cell? _ _ hw159_0; first | rwa [add_block] at this | exact this) GW160.out) | (rw [add_block]; exact Nat.ne_of_lt (Nat.lt_of_lt_of_le (by have := World.block_lt_of_cell? _ _ hw159_0; first | rwa [add_block] at this | exact this) GW160.out)) | (show (Addr.add _ _).block ≠ _; rw [add_block]; exact Nat.ne_of_lt (Nat.lt_of_lt_of_le (by have := World.block_lt_of_cell? _ _ hw159_0; first | rwa [add_block] at this | exact this) GW160.out)) | (dsimp only; exact Nat.ne_of_lt (Nat.lt_of_lt_of_le (by have := World.block_lt_of_cell? _ _ hw159_0; first | rwa [add_block] at this | exact this) GW160.out))) _).trans (((cell_far (p := ⟨gb160, _, none⟩) (by first | exact Nat.ne_of_lt (Nat.lt_of_lt_of_le (by have := World.block_lt_of_cell? _ _ hw159_0; first | rwa [add_block] at this | exact this) GW160.out) | (rw [add_block]; exact Nat.ne_of_lt (Nat.lt_of_lt_of_le (by have := World.block_lt_of_cell? _ _ hw159_0; first | rwa [add_block] at this | exact this) GW160.out)) | (show (Addr.add _ _).block ≠ _; rw [add_block]; exact Nat.ne_of_lt (Nat.lt_of_lt_of_le (by have := World.block_lt_of_cell? _ _ hw159_0; first | rwa [add_block] at this | exact this) GW160.out)) | (dsimp only; exact Nat.ne_of_lt (Nat.lt_of_lt_of_le (by have := World.block_lt_of_cell? _ _ hw159_0; first | rwa [add_block] at this | exact this) GW160.out))) _).trans (hHeld.2.2.2.2.2.2.2.2.2.2.2.2.2.2.2.2.2.2.2))))))))))⟩ (fun hHeld => ?_)
                        clear hK K
                        refine done_ (done_of HT_.out (by kernel_rfl)) ?_
                        have hnb99 := NB158_154.out
                        have hnc99 := NB154_158.out
                        have hnb100 := NB158_155.out
                        have hnc100 := NB155_158.out
                        have hnb101 := NB158_160.out
                        have hnc101 := NB160_158.out
                        have hcz102_0 : w93.cell? ⟨gb158, 0, none⟩ = some (.int .i64 ((rd_T54 l0_8 a1).f0)) := (blk_cell BK158.out 0).trans rfl
                        have hcz102_1 : w93.cell? ⟨gb158, 1, none⟩ = some (.int .i64 ((rd_T54 l0_8 a1).f1.f0)) := (blk_cell BK158.out 1).trans rfl
                        have hcz102_2 : w93.cell? ⟨gb158, 2, none⟩ = some (.int .i64 ((rd_T54 l0_8 a1).f1.f1)) := (blk_cell BK158.out 2).trans rfl
                        have hcz102_3 : w93.cell? ⟨gb158, 3, none⟩ = some (.int .i64 ((rd_T54 l0_8 a1).f1.f2)) := (blk_cell BK158.out 3).trans rfl
                        have hcz102_4 : w93.cell? ⟨gb158, 4, none⟩ = some (.int .i64 ((rd_T54 l0_8 a1).f1.f3)) := (blk_cell BK158.out 4).trans rfl
                        have hcz102_5 : w93.cell? ⟨gb158, 5, none⟩ = some (.int .i64 ((rd_T54 l0_8 a1).f2.f0)) := (blk_cell BK158.out 5).trans rfl
                        have hcz102_6 : w93.cell? ⟨gb158, 6, none⟩ = some (.int .i64 ((rd_T54 l0_8 a1).f2.f1)) := (blk_cell BK158.out 6).trans rfl
                        have hcz102_7 : w93.cell? ⟨gb158, 7, none⟩ = some (.int .i64 ((rd_T54 l0_8 a1).f2.f2)) := (blk_cell BK158.out 7).trans rfl
                        have hfz102_0 := blk_frozen BK158.out 0
                        have hfz102_1 := blk_frozen BK158.out 1
                        have hfz102_2 := blk_frozen BK158.out 2
                        have hfz102_3 := blk_frozen BK158.out 3
                        have hfz102_4 := blk_frozen BK158.out 4
                        have hfz102_5 := blk_frozen BK158.out 5
                        have hfz102_6 := blk_frozen BK158.out 6
                        have hfz102_7 := blk_frozen BK158.out 7
                        try go_wp2_with (first | ((with_reducible refine gate_callee (f := 17) rfl ?_); refine goesL_ (some 86) rfl rfl Tryd.func17 (by kernel_rfl) rfl #[.int .i64 a2, .int .i64 ((rd_T54 l0_8 a1).f1.f2)] rfl (by (try simp only [List.map_toArray, List.map_cons, List.map_nil]); first | done | rfl | (simp only [List.length_drop, List.length_take]; rfl)) ?_; (with_reducible refine (sample_part.calls a2 ((rd_T54 l0_8 a1).f1.f2) t161 t162 _ A58.out).mono ?_); rintro e w103 ⟨rfl, hb⟩; refine ⟨_, rfl, ?_⟩; have n0_ := Aside0.mk (blk_below (g := gb154) (o := .cells #[.int .i64 a0_0, .int .i64 a0_1, .int .i64 a0_2, .int .i64 a0_3, .int .i64 a0_4, .int .i64 a0_5, .int .i64 a0_6, .int .i64 a0_7, .slice (some ad157) l0_8.length c0_8, .slice A0_9 l0_9.length c0_9, .slice (some ad159) l0_10.length c0_10] 28 (0, 0)) (by (with_reducible repeat (first | refine blk_drewN ?_ _ | refine blk_drew ?_ | refine blk_alloc ?_ _)); refine blk_far ?_ NB154_160.out _; (with_reducible repeat (first | refine blk_drewN ?_ _ | refine blk_drew ?_ | refine blk_alloc ?_ _)); refine blk_far ?_ NB154_160.out _; (with_reducible repeat (first | refine blk_drewN ?_ _ | refine blk_drew ?_ | refine blk_alloc ?_ _)); refine blk_far ?_ NB154_160.out _; (with_reducible repeat (first | refine blk_drewN ?_ _ | refine blk_drew ?_ | refine blk_alloc ?_ _)); refine blk_far ?_ NB154_160.out _; (with_reducible repeat (first | refine blk_drewN ?_ _ | refine blk_drew ?_ | refine blk_alloc ?_ _)); refine blk_far ?_ NB154_160.out _; (with_reducible repeat (first | refine blk_drewN ?_ _ | refine blk_drew ?_ | refine blk_alloc ?_ _)); exact BK154.out) hb); have n1_ := Aside0.mk (blk_below (g := gb155) (o := .cells #[.int .i64 0, .int .i64 0, .int .i64 0, .int .i64 0] 32 (0, 0)) (by (with_reducible repeat (first | refine blk_drewN ?_ _ | refine blk_drew ?_ | refine blk_alloc ?_ _)); refine blk_far ?_ NB155_160.out _; (with_reducible repeat (first | refine blk_drewN ?_ _ | refine blk_drew ?_ | refine blk_alloc ?_ _)); refine blk_far ?_ NB155_160.out _; (with_reducible repeat (first | refine blk_drewN ?_ _ | refine blk_drew ?_ | refine blk_alloc ?_ _)); refine blk_far ?_ NB155_160.out _; (with_reducible repeat (first | refine blk_drewN ?_ _ | refine blk_drew ?_ | refine blk_alloc ?_ _)); refine blk_far ?_ NB155_160.out _; (with_reducible repeat (first | refine blk_drewN ?_ _ | refine blk_drew ?_ | refine blk_alloc ?_ _)); refine blk_far ?_ NB155_160.out _; (with_reducible repeat (first | refine blk_drewN ?_ _ | refine blk_drew ?_ | refine blk_alloc ?_ _)); exact BK155.out) hb); have n2_ := Aside0.mk (blk_below (g := gb158) (o := .cells #[.int .i64 ((rd_T54 l0_8 a1).f0), .int .i64 ((rd_T54 l0_8 a1).f1.f0), .int .i64 ((rd_T54 l0_8 a1).f1.f1), .int .i64 ((rd_T54 l0_8 a1).f1.f2), .int .i64 ((rd_T54 l0_8 a1).f1.f3), .int .i64 ((rd_T54 l0_8 a1).f2.f0), .int .i64 ((rd_T54 l0_8 a1).f2.f1), .int .i64 ((rd_T54 l0_8 a1).f2.f2)] 54 (0, 0)) (by (with_reducible repeat (first | refine blk_drewN ?_ _ | refine blk_drew ?_ | refine blk_alloc ?_ _)); refine blk_far ?_ NB158_160.out _; (with_reducible repeat (first | refine blk_drewN ?_ _ | refine blk_drew ?_ | refine blk_alloc ?_ _)); refine blk_far ?_ NB158_160.out _; (with_reducible repeat (first | refine blk_drewN ?_ _ | refine blk_drew ?_ | refine blk_alloc ?_ _)); refine blk_far ?_ NB158_160.out _; (with_reducible repeat (first | refine blk_drewN ?_ _ | refine blk_drew ?_ | refine blk_alloc ?_ _)); refine blk_far ?_ NB158_160.out _; (with_reducible repeat (first | refine blk_drewN ?_ _ | refine blk_drew ?_ | refine blk_alloc ?_ _)); refine blk_far ?_ NB158_160.out _; (with_reducible repeat (first | refine blk_drewN ?_ _ | refine blk_drew ?_ | refine blk_alloc ?_ _)); exact BK158.out) hb); have n3_ := Aside0.mk (blk_below (g := gb160) (o := .cells #[.string (rdOf ByteArray.empty l0_10 ((rd_T54 l0_8 a1).f2.f0)), .int .i64 a0_6, .int .i64 ((rd_T54 l0_8 a1).f2.f0), .int .i64 ((rd_T54 l0_8 a1).f2.f1), .int .i64 ((rd_T54 l0_8 a1).f2.f2)] 62 (0, 0)) (by (with_reducible repeat (first | refine blk_drewN ?_ _ | refine blk_drew ?_ | refine blk_alloc ?_ _)); refine blk_put (cs := #[.string (rdOf ByteArray.empty l0_10 ((rd_T54 l0_8 a1).f2.f0)), .int .i64 a0_6, .int .i64 ((rd_T54 l0_8 a1).f2.f0), .int .i64 ((rd_T54 l0_8 a1).f2.f1), .int .i64 0]) ?_ 4 _ rfl; (with_reducible repeat (first | refine blk_drewN ?_ _ | refine blk_drew ?_ | refine blk_alloc ?_ _)); refine blk_put (cs := #[.string (rdOf ByteArray.empty l0_10 ((rd_T54 l0_8 a1).f2.f0)), .int .i64 a0_6, .int .i64 ((rd_T54 l0_8 a1).f2.f0), .int .i64 0, .int .i64 0]) ?_ 3 _ rfl; (with_reducible repeat (first | refine blk_drewN ?_ _ | refine blk_drew ?_ | refine blk_alloc ?_ _)); refine blk_put (cs := #[.string (rdOf ByteArray.empty l0_10 ((rd_T54 l0_8 a1).f2.f0)), .int .i64 a0_6, .int .i64 0, .int .i64 0, .int .i64 0]) ?_ 2 _ rfl; (with_reducible repeat (first | refine blk_drewN ?_ _ | refine blk_drew ?_ | refine blk_alloc ?_ _)); refine blk_put (cs := #[.string (rdOf ByteArray.empty l0_10 ((rd_T54 l0_8 a1).f2.f0)), .int .i64 0, .int .i64 0, .int .i64 0, .int .i64 0]) ?_ 1 _ rfl; (with_reducible repeat (first | refine blk_drewN ?_ _ | refine blk_drew ?_ | refine blk_alloc ?_ _)); refine blk_put (cs := #[.string (⟨#[]⟩ : ByteArray), .int .i64 0, .int .i64 0, .int .i64 0, .int .i64 0]) ?_ 0 _ rfl; (with_reducible repeat (first | refine blk_drewN ?_ _ | refine blk_drew ?_ | refine blk_alloc ?_ _)); exact BK160.out) hb); have n4_ := Aside0.mk (below_step (by repeat (first | (with_reducible first | exact HB.out | apply below_alloc | apply pw_below_drewN | apply below_drew1 | refine below_set ?_ GE154.out | refine below_set ?_ GE155.out | refine below_set ?_ GE158.out | refine below_set ?_ GE160.out) | exact HB.out)) hb); clear BK154; clear BK155; clear BK158; clear BK160; clear HB; have BK154 := n0_; have BK155 := n1_; have BK158 := n2_; have BK160 := n3_; have HB := n4_; clear n0_ n1_ n2_ n3_ n4_; (try clear hb); (try clear hb2); (try clear hk); (try clear hi); have hcz104_0 : w103.cell? ⟨gb158, 0, none⟩ = some (.int .i64 ((rd_T54 l0_8 a1).f0)) := (blk_cell BK158.out 0).trans rfl; have hcz104_1 : w103.cell? ⟨gb158, 1, none⟩ = some (.int .i64 ((rd_T54 l0_8 a1).f1.f0)) := (blk_cell BK158.out 1).trans rfl; have hcz104_2 : w103.cell? ⟨gb158, 2, none⟩ = some (.int .i64 ((rd_T54 l0_8 a1).f1.f1)) := (blk_cell BK158.out 2).trans rfl; have hcz104_3 : w103.cell? ⟨gb158, 3, none⟩ = some (.int .i64 ((rd_T54 l0_8 a1).f1.f2)) := (blk_cell BK158.out 3).trans rfl; have hcz104_4 : w103.cell? ⟨gb158, 4, none⟩ = some (.int .i64 ((rd_T54 l0_8 a1).f1.f3)) := (blk_cell BK158.out 4).trans rfl; have hcz104_5 : w103.cell? ⟨gb158, 5, none⟩ = some (.int .i64 ((rd_T54 l0_8 a1).f2.f0)) := (blk_cell BK158.out 5).trans rfl; have hcz104_6 : w103.cell? ⟨gb158, 6, none⟩ = some (.int .i64 ((rd_T54 l0_8 a1).f2.f1)) := (blk_cell BK158.out 6).trans rfl; have hcz104_7 : w103.cell? ⟨gb158, 7, none⟩ = some (.int .i64 ((rd_T54 l0_8 a1).f2.f2)) := (blk_cell BK158.out 7).trans rfl; have hfz104_0 := blk_frozen BK158.out 0; have hfz104_1 := blk_frozen BK158.out 1; have hfz104_2 := blk_frozen BK158.out 2; have hfz104_3 := blk_frozen BK158.out 3; have hfz104_4 := blk_frozen BK158.out 4; have hfz104_5 := blk_frozen BK158.out 5; have hfz104_6 := blk_frozen BK158.out 6; have hfz104_7 := blk_frozen BK158.out 7) | ((with_reducible refine gate_callee (f := 17) rfl ?_); refine goesL_ (some 94) rfl rfl Tryd.func17 (by kernel_rfl) rfl #[.int .i64 a3, .int .i64 ((rd_T54 l0_8 a1).f1.f3)] rfl (by (try simp only [List.map_toArray, List.map_cons, List.map_nil]); first | done | rfl | (simp only [List.length_drop, List.length_take]; rfl)) ?_; (with_reducible refine (sample_part.calls a3 ((rd_T54 l0_8 a1).f1.f3) t163 t164 _ A59.out).mono ?_); rintro e w105 ⟨rfl, hb⟩; refine ⟨_, rfl, ?_⟩; have n0_ := Aside0.mk (blk_below (g := gb154) (o := .cells #[.int .i64 a0_0, .int .i64 a0_1, .int .i64 a0_2, .int .i64 a0_3, .int .i64 a0_4, .int .i64 a0_5, .int .i64 a0_6, .int .i64 a0_7, .slice (some ad157) l0_8.length c0_8, .slice A0_9 l0_9.length c0_9, .slice (some ad159) l0_10.length c0_10] 28 (0, 0)) (by (with_reducible repeat (first | refine blk_drewN ?_ _ | refine blk_drew ?_ | refine blk_alloc ?_ _)); exact BK154.out) hb); have n1_ := Aside0.mk (blk_below (g := gb155) (o := .cells #[.int .i64 0, .int .i64 0, .int .i64 0, .int .i64 0] 32 (0, 0)) (by (with_reducible repeat (first | refine blk_drewN ?_ _ | refine blk_drew ?_ | refine blk_alloc ?_ _)); exact BK155.out) hb); have n2_ := Aside0.mk (blk_below (g := gb158) (o := .cells #[.int .i64 ((rd_T54 l0_8 a1).f0), .int .i64 ((rd_T54 l0_8 a1).f1.f0), .int .i64 ((rd_T54 l0_8 a1).f1.f1), .int .i64 ((rd_T54 l0_8 a1).f1.f2), .int .i64 ((rd_T54 l0_8 a1).f1.f3), .int .i64 ((rd_T54 l0_8 a1).f2.f0), .int .i64 ((rd_T54 l0_8 a1).f2.f1), .int .i64 ((rd_T54 l0_8 a1).f2.f2)] 54 (0, 0)) (by (with_reducible repeat (first | refine blk_drewN ?_ _ | refine blk_drew ?_ | refine blk_alloc ?_ _)); exact BK158.out) hb); have n3_ := Aside0.mk (blk_below (g := gb160) (o := .cells #[.string (rdOf ByteArray.empty l0_10 ((rd_T54 l0_8 a1).f2.f0)), .int .i64 a0_6, .int .i64 ((rd_T54 l0_8 a1).f2.f0), .int .i64 ((rd_T54 l0_8 a1).f2.f1), .int .i64 ((rd_T54 l0_8 a1).f2.f2)] 62 (0, 0)) (by (with_reducible repeat (first | refine blk_drewN ?_ _ | refine blk_drew ?_ | refine blk_alloc ?_ _)); exact BK160.out) hb); have n4_ := Aside0.mk (below_step (by repeat (first | (with_reducible first | exact HB.out | apply below_alloc | apply pw_below_drewN | apply below_drew1 | refine below_set ?_ GE154.out | refine below_set ?_ GE155.out | refine below_set ?_ GE158.out | refine below_set ?_ GE160.out) | exact HB.out)) hb); clear BK154; clear BK155; clear BK158; clear BK160; clear HB; have BK154 := n0_; have BK155 := n1_; have BK158 := n2_; have BK160 := n3_; have HB := n4_; clear n0_ n1_ n2_ n3_ n4_; (try clear hb); (try clear hb2); (try clear hk); (try clear hi); have hnb106 := NB160_154.out; have hnc106 := NB154_160.out; have hnb107 := NB160_155.out; have hnc107 := NB155_160.out; have hcz108_0 : w105.cell? ⟨gb160, 0, none⟩ = some (.string (rdOf ByteArray.empty l0_10 ((rd_T54 l0_8 a1).f2.f0))) := (blk_cell BK160.out 0).trans rfl; have hcz108_1 : w105.cell? ⟨gb160, 1, none⟩ = some (.int .i64 a0_6) := (blk_cell BK160.out 1).trans rfl; have hcz108_2 : w105.cell? ⟨gb160, 2, none⟩ = some (.int .i64 ((rd_T54 l0_8 a1).f2.f0)) := (blk_cell BK160.out 2).trans rfl; have hcz108_3 : w105.cell? ⟨gb160, 3, none⟩ = some (.int .i64 ((rd_T54 l0_8 a1).f2.f1)) := (blk_cell BK160.out 3).trans rfl; have hcz108_4 : w105.cell? ⟨gb160, 4, none⟩ = some (.int .i64 ((rd_T54 l0_8 a1).f2.f2)) := (blk_cell BK160.out 4).trans rfl; have hfz108_0 := blk_frozen BK160.out 0; have hfz108_1 := blk_frozen BK160.out 1; have hfz108_2 := blk_frozen BK160.out 2; have hfz108_3 := blk_frozen BK160.out 3; have hfz108_4 := blk_frozen BK160.out 4) | ((with_reducible refine gate_callee (f := 18) rfl ?_); refine goesL_ (some 101) rfl rfl Tryd.func18 (by kernel_rfl) rfl #[.agg #[.string (rdOf ByteArray.empty l0_10 ((rd_T54 l0_8 a1).f2.f0)), .int .i64 a0_6, .int .i64 ((rd_T54 l0_8 a1).f2.f0), .int .i64 ((rd_T54 l0_8 a1).f2.f1), .int .i64 ((rd_T54 l0_8 a1).f2.f2)], .int .i64 t161, .int .i64 t163, .int .i64 t162] rfl (by (try simp only [List.map_toArray, List.map_cons, List.map_nil]); first | done | rfl | (simp only [List.length_drop, List.length_take]; rfl)) ?_; (with_reducible refine (sample_sampler_row.calls (rdOf ByteArray.empty l0_10 ((rd_T54 l0_8 a1).f2.f0)) a0_6 ((rd_T54 l0_8 a1).f2.f0) ((rd_T54 l0_8 a1).f2.f1) ((rd_T54 l0_8 a1).f2.f2) t161 t163 t162 t165 t166 t167 t168 _ A60.out).mono ?_); rintro e w109 ⟨rfl, hb⟩; refine ⟨_, rfl, ?_⟩; have n0_ := Aside0.mk (blk_below (g := gb154) (o := .cells #[.int .i64 a0_0, .int .i64 a0_1, .int .i64 a0_2, .int .i64 a0_3, .int .i64 a0_4, .int .i64 a0_5, .int .i64 a0_6, .int .i64 a0_7, .slice (some ad157) l0_8.length c0_8, .slice A0_9 l0_9.length c0_9, .slice (some ad159) l0_10.length c0_10] 28 (0, 0)) (by (with_reducible repeat (first | refine blk_drewN ?_ _ | refine blk_drew ?_ | refine blk_alloc ?_ _)); exact BK154.out) hb); have n1_ := Aside0.mk (blk_below (g := gb155) (o := .cells #[.int .i64 0, .int .i64 0, .int .i64 0, .int .i64 0] 32 (0, 0)) (by (with_reducible repeat (first | refine blk_drewN ?_ _ | refine blk_drew ?_ | refine blk_alloc ?_ _)); exact BK155.out) hb); have n2_ := Aside0.mk (blk_below (g := gb158) (o := .cells #[.int .i64 ((rd_T54 l0_8 a1).f0), .int .i64 ((rd_T54 l0_8 a1).f1.f0), .int .i64 ((rd_T54 l0_8 a1).f1.f1), .int .i64 ((rd_T54 l0_8 a1).f1.f2), .int .i64 ((rd_T54 l0_8 a1).f1.f3), .int .i64 ((rd_T54 l0_8 a1).f2.f0), .int .i64 ((rd_T54 l0_8 a1).f2.f1), .int .i64 ((rd_T54 l0_8 a1).f2.f2)] 54 (0, 0)) (by (with_reducible repeat (first | refine blk_drewN ?_ _ | refine blk_drew ?_ | refine blk_alloc ?_ _)); exact BK158.out) hb); have n3_ := Aside0.mk (blk_below (g := gb160) (o := .cells #[.string (rdOf ByteArray.empty l0_10 ((rd_T54 l0_8 a1).f2.f0)), .int .i64 a0_6, .int .i64 ((rd_T54 l0_8 a1).f2.f0), .int .i64 ((rd_T54 l0_8 a1).f2.f1), .int .i64 ((rd_T54 l0_8 a1).f2.f2)] 62 (0, 0)) (by (with_reducible repeat (first | refine blk_drewN ?_ _ | refine blk_drew ?_ | refine blk_alloc ?_ _)); exact BK160.out) hb); have n4_ := Aside0.mk (below_step (by repeat (first | (with_reducible first | exact HB.out | apply below_alloc | apply pw_below_drewN | apply below_drew1 | refine below_set ?_ GE154.out | refine below_set ?_ GE155.out | refine below_set ?_ GE158.out | refine below_set ?_ GE160.out) | exact HB.out)) hb); clear BK154; clear BK155; clear BK158; clear BK160; clear HB; have BK154 := n0_; have BK155 := n1_; have BK158 := n2_; have BK160 := n3_; have HB := n4_; clear n0_ n1_ n2_ n3_ n4_; (try clear hb); (try clear hb2); (try clear hk); (try clear hi)) | ((with_reducible refine gate_dst (N := 16) rfl ?_); refine box_event ?hg (N := 16) ?hd (cs := #[.int .i64 0, .int .i64 0, .int .i64 0, .int .i64 0]) (t := 32) ?hr ?_; (case hd => rfl); (case hg => rfl); (case hr => first | (go_simp; done) | (go_simp; rfl)); intro gb169 hg w110 hbox hb; have n0_ := Aside0.mk (blk_below (g := gb154) (o := .cells #[.int .i64 a0_0, .int .i64 a0_1, .int .i64 a0_2, .int .i64 a0_3, .int .i64 a0_4, .int .i64 a0_5, .int .i64 a0_6, .int .i64 a0_7, .slice (some ad157) l0_8.length c0_8, .slice A0_9 l0_9.length c0_9, .slice (some ad159) l0_10.length c0_10] 28 (0, 0)) (by (with_reducible repeat (first | refine blk_drewN ?_ _ | refine blk_drew ?_ | refine blk_alloc ?_ _)); exact BK154.out) hb); have n1_ := Aside0.mk (blk_below (g := gb155) (o := .cells #[.int .i64 0, .int .i64 0, .int .i64 0, .int .i64 0] 32 (0, 0)) (by (with_reducible repeat (first | refine blk_drewN ?_ _ | refine blk_drew ?_ | refine blk_alloc ?_ _)); exact BK155.out) hb); have n2_ := Aside0.mk (blk_below (g := gb158) (o := .cells #[.int .i64 ((rd_T54 l0_8 a1).f0), .int .i64 ((rd_T54 l0_8 a1).f1.f0), .int .i64 ((rd_T54 l0_8 a1).f1.f1), .int .i64 ((rd_T54 l0_8 a1).f1.f2), .int .i64 ((rd_T54 l0_8 a1).f1.f3), .int .i64 ((rd_T54 l0_8 a1).f2.f0), .int .i64 ((rd_T54 l0_8 a1).f2.f1), .int .i64 ((rd_T54 l0_8 a1).f2.f2)] 54 (0, 0)) (by (with_reducible repeat (first | refine blk_drewN ?_ _ | refine blk_drew ?_ | refine blk_alloc ?_ _)); exact BK158.out) hb); have n3_ := Aside0.mk (blk_below (g := gb160) (o := .cells #[.string (rdOf ByteArray.empty l0_10 ((rd_T54 l0_8 a1).f2.f0)), .int .i64 a0_6, .int .i64 ((rd_T54 l0_8 a1).f2.f0), .int .i64 ((rd_T54 l0_8 a1).f2.f1), .int .i64 ((rd_T54 l0_8 a1).f2.f2)] 62 (0, 0)) (by (with_reducible repeat (first | refine blk_drewN ?_ _ | refine blk_drew ?_ | refine blk_alloc ?_ _)); exact BK160.out) hb); have n4_ := Aside0.mk (below_step (by repeat (first | (with_reducible first | exact HB.out | apply below_alloc | apply pw_below_drewN | apply below_drew1 | refine below_set ?_ GE154.out | refine below_set ?_ GE155.out | refine below_set ?_ GE158.out | refine below_set ?_ GE160.out) | exact HB.out)) hb); have n5_ := Aside0.mk (hbox); have n6_ := Aside0.mk ((by rw [hg]; exact (below_size (by repeat (first | (with_reducible first | exact HB.out | apply below_alloc | apply pw_below_drewN | apply below_drew1 | refine below_set ?_ GE154.out | refine below_set ?_ GE155.out | refine below_set ?_ GE158.out | refine below_set ?_ GE160.out) | exact HB.out))) : w.heap.size ≤ gb169)); have n7_ := Aside0.mk ((by rw [hg]; exact (below_size (by repeat (first | (with_reducible first | exact HB.out | apply below_alloc | apply pw_below_drewN | apply below_drew1 | refine below_set ?_ GE154.out | refine below_set ?_ GE155.out | refine below_set ?_ GE158.out | refine below_set ?_ GE160.out) | exact HB.out))) : w.heap.size ≤ gb169)); have n8_ := Aside0.mk ((by rw [hg]; exact Nat.ne_of_lt (blk_lt (g := gb154) (o := .cells #[.int .i64 a0_0, .int .i64 a0_1, .int .i64 a0_2, .int .i64 a0_3, .int .i64 a0_4, .int .i64 a0_5, .int .i64 a0_6, .int .i64 a0_7, .slice (some ad157) l0_8.length c0_8, .slice A0_9 l0_9.length c0_9, .slice (some ad159) l0_10.length c0_10] 28 (0, 0)) (by (with_reducible repeat (first | refine blk_drewN ?_ _ | refine blk_drew ?_ | refine blk_alloc ?_ _)); exact BK154.out)) : gb154 ≠ gb169)); have n9_ := Aside0.mk ((by rw [hg]; exact Nat.ne_of_gt (blk_lt (g := gb154) (o := .cells #[.int .i64 a0_0, .int .i64 a0_1, .int .i64 a0_2, .int .i64 a0_3, .int .i64 a0_4, .int .i64 a0_5, .int .i64 a0_6, .int .i64 a0_7, .slice (some ad157) l0_8.length c0_8, .slice A0_9 l0_9.length c0_9, .slice (some ad159) l0_10.length c0_10] 28 (0, 0)) (by (with_reducible repeat (first | refine blk_drewN ?_ _ | refine blk_drew ?_ | refine blk_alloc ?_ _)); exact BK154.out)) : gb169 ≠ gb154)); have n10_ := Aside0.mk ((by rw [hg]; exact Nat.ne_of_lt (blk_lt (g := gb155) (o := .cells #[.int .i64 0, .int .i64 0, .int .i64 0, .int .i64 0] 32 (0, 0)) (by (with_reducible repeat (first | refine blk_drewN ?_ _ | refine blk_drew ?_ | refine blk_alloc ?_ _)); exact BK155.out)) : gb155 ≠ gb169)); have n11_ := Aside0.mk ((by rw [hg]; exact Nat.ne_of_gt (blk_lt (g := gb155) (o := .cells #[.int .i64 0, .int .i64 0, .int .i64 0, .int .i64 0] 32 (0, 0)) (by (with_reducible repeat (first | refine blk_drewN ?_ _ | refine blk_drew ?_ | refine blk_alloc ?_ _)); exact BK155.out)) : gb169 ≠ gb155)); have n12_ := Aside0.mk ((by rw [hg]; exact Nat.ne_of_lt (blk_lt (g := gb158) (o := .cells #[.int .i64 ((rd_T54 l0_8 a1).f0), .int .i64 ((rd_T54 l0_8 a1).f1.f0), .int .i64 ((rd_T54 l0_8 a1).f1.f1), .int .i64 ((rd_T54 l0_8 a1).f1.f2), .int .i64 ((rd_T54 l0_8 a1).f1.f3), .int .i64 ((rd_T54 l0_8 a1).f2.f0), .int .i64 ((rd_T54 l0_8 a1).f2.f1), .int .i64 ((rd_T54 l0_8 a1).f2.f2)] 54 (0, 0)) (by (with_reducible repeat (first | refine blk_drewN ?_ _ | refine blk_drew ?_ | refine blk_alloc ?_ _)); exact BK158.out)) : gb158 ≠ gb169)); have n13_ := Aside0.mk ((by rw [hg]; exact Nat.ne_of_gt (blk_lt (g := gb158) (o := .cells #[.int .i64 ((rd_T54 l0_8 a1).f0), .int .i64 ((rd_T54 l0_8 a1).f1.f0), .int .i64 ((rd_T54 l0_8 a1).f1.f1), .int .i64 ((rd_T54 l0_8 a1).f1.f2), .int .i64 ((rd_T54 l0_8 a1).f1.f3), .int .i64 ((rd_T54 l0_8 a1).f2.f0), .int .i64 ((rd_T54 l0_8 a1).f2.f1), .int .i64 ((rd_T54 l0_8 a1).f2.f2)] 54 (0, 0)) (by (with_reducible repeat (first | refine blk_drewN ?_ _ | refine blk_drew ?_ | refine blk_alloc ?_ _)); exact BK158.out)) : gb169 ≠ gb158)); have n14_ := Aside0.mk ((by rw [hg]; exact Nat.ne_of_lt (blk_lt (g := gb160) (o := .cells #[.string (rdOf ByteArray.empty l0_10 ((rd_T54 l0_8 a1).f2.f0)), .int .i64 a0_6, .int .i64 ((rd_T54 l0_8 a1).f2.f0), .int .i64 ((rd_T54 l0_8 a1).f2.f1), .int .i64 ((rd_T54 l0_8 a1).f2.f2)] 62 (0, 0)) (by (with_reducible repeat (first | refine blk_drewN ?_ _ | refine blk_drew ?_ | refine blk_alloc ?_ _)); exact BK160.out)) : gb160 ≠ gb169)); have n15_ := Aside0.mk ((by rw [hg]; exact Nat.ne_of_gt (blk_lt (g := gb160) (o := .cells #[.string (rdOf ByteArray.empty l0_10 ((rd_T54 l0_8 a1).f2.f0)), .int .i64 a0_6, .int .i64 ((rd_T54 l0_8 a1).f2.f0), .int .i64 ((rd_T54 l0_8 a1).f2.f1), .int .i64 ((rd_T54 l0_8 a1).f2.f2)] 62 (0, 0)) (by (with_reducible repeat (first | refine blk_drewN ?_ _ | refine blk_drew ?_ | refine blk_alloc ?_ _)); exact BK160.out)) : gb169 ≠ gb160)); clear BK154; clear BK155; clear BK158; clear BK160; clear HB; have BK154 := n0_; have BK155 := n1_; have BK158 := n2_; have BK160 := n3_; have HB := n4_; have BK169 := n5_; have GW169 := n6_; have GE169 := n7_; have NB154_169 := n8_; have NB169_154 := n9_; have NB155_169 := n10_; have NB169_155 := n11_; have NB158_169 := n12_; have NB169_158 := n13_; have NB160_169 := n14_; have NB169_160 := n15_; clear n0_ n1_ n2_ n3_ n4_ n5_ n6_ n7_ n8_ n9_ n10_ n11_ n12_ n13_ n14_ n15_; clear hb hbox hg; have hnb111 := NB169_154.out; have hnc111 := NB154_169.out; have hnb112 := NB169_155.out; have hnc112 := NB155_169.out; have hnb113 := NB169_158.out; have hnc113 := NB158_169.out; have hnb114 := NB169_160.out; have hnc114 := NB160_169.out; have hcz115_0 : w110.cell? ⟨gb169, 0, none⟩ = some (.int .i64 0) := (blk_cell BK169.out 0).trans rfl; have hcz115_1 : w110.cell? ⟨gb169, 1, none⟩ = some (.int .i64 0) := (blk_cell BK169.out 1).trans rfl; have hcz115_2 : w110.cell? ⟨gb169, 2, none⟩ = some (.int .i64 0) := (blk_cell BK169.out 2).trans rfl; have hcz115_3 : w110.cell? ⟨gb169, 3, none⟩ = some (.int .i64 0) := (blk_cell BK169.out 3).trans rfl; have hfz115_0 := blk_frozen BK169.out 0; have hfz115_1 := blk_frozen BK169.out 1; have hfz115_2 := blk_frozen BK169.out 2; have hfz115_3 := blk_frozen BK169.out 3))
                        have n0_ : Aside0 (((((w110.setCell ⟨gb169, 0, none⟩ (.int .i64 t165)).setCell ⟨gb169, 1, none⟩ (.int .i64 t166)).setCell ⟨gb169, 2, none⟩ (.int .i64 t167)).setCell ⟨gb169, 3, none⟩ (.int .i64 t168)).heap[gb154]? = some (.cells #[.int .i64 a0_0, .int .i64 a0_1, .int .i64 a0_2, .int .i64 a0_3, .int .i64 a0_4, .int .i64 a0_5, .int .i64 a0_6, .int .i64 a0_7, .slice (some ad157) l0_8.length c0_8, .slice A0_9 l0_9.length c0_9, .slice (some ad159) l0_10.length c0_10] 28 (0, 0))) := ⟨by (with_reducible repeat (first | refine blk_drewN ?_ _ | refine blk_drew ?_ | refine blk_alloc ?_ _)); refine blk_far ?_ NB154_169.out _; (with_reducible repeat (first | refine blk_drewN ?_ _ | refine blk_drew ?_ | refine blk_alloc ?_ _)); refine blk_far ?_ NB154_169.out _; (with_reducible repeat (first | refine blk_drewN ?_ _ | refine blk_drew ?_ | refine blk_alloc ?_ _)); refine blk_far ?_ NB154_169.out _; (with_reducible repeat (first | refine blk_drewN ?_ _ | refine blk_drew ?_ | refine blk_alloc ?_ _)); refine blk_far ?_ NB154_169.out _; (with_reducible repeat (first | refine blk_drewN ?_ _ | refine blk_drew ?_ | refine blk_alloc ?_ _)); exact BK154.out⟩
                        have n1_ : Aside0 (((((w110.setCell ⟨gb169, 0, none⟩ (.int .i64 t165)).setCell ⟨gb169, 1, none⟩ (.int .i64 t166)).setCell ⟨gb169, 2, none⟩ (.int .i64 t167)).setCell ⟨gb169, 3, none⟩ (.int .i64 t168)).heap[gb155]? = some (.cells #[.int .i64 0, .int .i64 0, .int .i64 0, .int .i64 0] 32 (0, 0))) := ⟨by (with_reducible repeat (first | refine blk_drewN ?_ _ | refine blk_drew ?_ | refine blk_alloc ?_ _)); refine blk_far ?_ NB155_169.out _; (with_reducible repeat (first | refine blk_drewN ?_ _ | refine blk_drew ?_ | refine blk_alloc ?_ _)); refine blk_far ?_ NB155_169.out _; (with_reducible repeat (first | refine blk_drewN ?_ _ | refine blk_drew ?_ | refine blk_alloc ?_ _)); refine blk_far ?_ NB155_169.out _; (with_reducible repeat (first | refine blk_drewN ?_ _ | refine blk_drew ?_ | refine blk_alloc ?_ _)); refine blk_far ?_ NB155_169.out _; (with_reducible repeat (first | refine blk_drewN ?_ _ | refine blk_drew ?_ | refine blk_alloc ?_ _)); exact BK155.out⟩
                        have n2_ : Aside0 (((((w110.setCell ⟨gb169, 0, none⟩ (.int .i64 t165)).setCell ⟨gb169, 1, none⟩ (.int .i64 t166)).setCell ⟨gb169, 2, none⟩ (.int .i64 t167)).setCell ⟨gb169, 3, none⟩ (.int .i64 t168)).heap[gb158]? = some (.cells #[.int .i64 ((rd_T54 l0_8 a1).f0), .int .i64 ((rd_T54 l0_8 a1).f1.f0), .int .i64 ((rd_T54 l0_8 a1).f1.f1), .int .i64 ((rd_T54 l0_8 a1).f1.f2), .int .i64 ((rd_T54 l0_8 a1).f1.f3), .int .i64 ((rd_T54 l0_8 a1).f2.f0), .int .i64 ((rd_T54 l0_8 a1).f2.f1), .int .i64 ((rd_T54 l0_8 a1).f2.f2)] 54 (0, 0))) := ⟨by (with_reducible repeat (first | refine blk_drewN ?_ _ | refine blk_drew ?_ | refine blk_alloc ?_ _)); refine blk_far ?_ NB158_169.out _; (with_reducible repeat (first | refine blk_drewN ?_ _ | refine blk_drew ?_ | refine blk_alloc ?_ _)); refine blk_far ?_ NB158_169.out _; (with_reducible repeat (first | refine blk_drewN ?_ _ | refine blk_drew ?_ | refine blk_alloc ?_ _)); refine blk_far ?_ NB158_169.out _; (with_reducible repeat (first | refine blk_drewN ?_ _ | refine blk_drew ?_ | refine blk_alloc ?_ _)); refine blk_far ?_ NB158_169.out _; (with_reducible repeat (first | refine blk_drewN ?_ _ | refine blk_drew ?_ | refine blk_alloc ?_ _)); exact BK158.out⟩
                        have n3_ : Aside0 (((((w110.setCell ⟨gb169, 0, none⟩ (.int .i64 t165)).setCell ⟨gb169, 1, none⟩ (.int .i64 t166)).setCell ⟨gb169, 2, none⟩ (.int .i64 t167)).setCell ⟨gb169, 3, none⟩ (.int .i64 t168)).heap[gb160]? = some (.cells #[.string (rdOf ByteArray.empty l0_10 ((rd_T54 l0_8 a1).f2.f0)), .int .i64 a0_6, .int .i64 ((rd_T54 l0_8 a1).f2.f0), .int .i64 ((rd_T54 l0_8 a1).f2.f1), .int .i64 ((rd_T54 l0_8 a1).f2.f2)] 62 (0, 0))) := ⟨by (with_reducible repeat (first | refine blk_drewN ?_ _ | refine blk_drew ?_ | refine blk_alloc ?_ _)); refine blk_far ?_ NB160_169.out _; (with_reducible repeat (first | refine blk_drewN ?_ _ | refine blk_drew ?_ | refine blk_alloc ?_ _)); refine blk_far ?_ NB160_169.out _; (with_reducible repeat (first | refine blk_drewN ?_ _ | refine blk_drew ?_ | refine blk_alloc ?_ _)); refine blk_far ?_ NB160_169.out _; (with_reducible repeat (first | refine blk_drewN ?_ _ | refine blk_drew ?_ | refine blk_alloc ?_ _)); refine blk_far ?_ NB160_169.out _; (with_reducible repeat (first | refine blk_drewN ?_ _ | refine blk_drew ?_ | refine blk_alloc ?_ _)); exact BK160.out⟩
                        have n4_ : Aside0 (((((w110.setCell ⟨gb169, 0, none⟩ (.int .i64 t165)).setCell ⟨gb169, 1, none⟩ (.int .i64 t166)).setCell ⟨gb169, 2, none⟩ (.int .i64 t167)).setCell ⟨gb169, 3, none⟩ (.int .i64 t168)).heap[gb169]? = some (.cells #[.int .i64 t165, .int .i64 t166, .int .i64 t167, .int .i64 t168] 32 (0, 0))) := ⟨by (with_reducible repeat (first | refine blk_drewN ?_ _ | refine blk_drew ?_ | refine blk_alloc ?_ _)); refine blk_put (cs := #[.int .i64 t165, .int .i64 t166, .int .i64 t167, .int .i64 0]) ?_ 3 _ rfl; (with_reducible repeat (first | refine blk_drewN ?_ _ | refine blk_drew ?_ | refine blk_alloc ?_ _)); refine blk_put (cs := #[.int .i64 t165, .int .i64 t166, .int .i64 0, .int .i64 0]) ?_ 2 _ rfl; (with_reducible repeat (first | refine blk_drewN ?_ _ | refine blk_drew ?_ | refine blk_alloc ?_ _)); refine blk_put (cs := #[.int .i64 t165, .int .i64 0, .int .i64 0, .int .i64 0]) ?_ 1 _ rfl; (with_reducible repeat (first | refine blk_drewN ?_ _ | refine blk_drew ?_ | refine blk_alloc ?_ _)); refine blk_put (cs := #[.int .i64 0, .int .i64 0, .int .i64 0, .int .i64 0]) ?_ 0 _ rfl; (with_reducible repeat (first | refine blk_drewN ?_ _ | refine blk_drew ?_ | refine blk_alloc ?_ _)); exact BK169.out⟩
                        have n5_ : Aside0 (Below w.heap.size w ((((w110.setCell ⟨gb169, 0, none⟩ (.int .i64 t165)).setCell ⟨gb169, 1, none⟩ (.int .i64 t166)).setCell ⟨gb169, 2, none⟩ (.int .i64 t167)).setCell ⟨gb169, 3, none⟩ (.int .i64 t168))) := ⟨by repeat (first | (with_reducible first | exact HB.out | apply below_alloc | apply pw_below_drewN | apply below_drew1 | refine below_set ?_ GE154.out | refine below_set ?_ GE155.out | refine below_set ?_ GE158.out | refine below_set ?_ GE160.out | refine below_set ?_ GE169.out) | exact HB.out)⟩
                        (try clear BK154)
                        (try clear BK155)
                        (try clear BK158)
                        (try clear BK160)
                        (try clear BK169)
                        (try clear HB)
                        generalize ((((w110.setCell ⟨gb169, 0, none⟩ (.int .i64 t165)).setCell ⟨gb169, 1, none⟩ (.int .i64 t166)).setCell ⟨gb169, 2, none⟩ (.int .i64 t167)).setCell ⟨gb169, 3, none⟩ (.int .i64 t168)) = w116 at n0_ n1_ n2_ n3_ n4_ n5_ ⊢
                        have BK154 := n0_
                        have BK155 := n1_
                        have BK158 := n2_
                        have BK160 := n3_
                        have BK169 := n4_
                        have HB := n5_
                        clear n0_ n1_ n2_ n3_ n4_ n5_
                        have n0_ := Aside0.mk (blk_drew BK154.out)
                        have n1_ := Aside0.mk (blk_drew BK155.out)
                        have n2_ := Aside0.mk (blk_drew BK158.out)
                        have n3_ := Aside0.mk (blk_drew BK160.out)
                        have n4_ := Aside0.mk (blk_drew BK169.out)
                        have n5_ := Aside0.mk (below_drew1 HB.out)
                        clear BK154
                        clear BK155
                        clear BK158
                        clear BK160
                        clear BK169
                        clear HB
                        have BK154 := n0_
                        have BK155 := n1_
                        have BK158 := n2_
                        have BK160 := n3_
                        have BK169 := n4_
                        have HB := n5_
                        clear n0_ n1_ n2_ n3_ n4_ n5_
                        refine start_ (n := 11) (S := fun w' => w'.cell? ⟨gb169, 0, none⟩ = some (.int .i64 t165) ∧ w'.cell? ⟨gb169, 1, none⟩ = some (.int .i64 t166) ∧ w'.cell? ⟨gb169, 2, none⟩ = some (.int .i64 t167) ∧ w'.cell? ⟨gb169, 3, none⟩ = some (.int .i64 t168) ∧ w'.cell? ⟨gb160, 0, none⟩ = some (.string (rdOf ByteArray.empty l0_10 ((rd_T54 l0_8 a1).f2.f0))) ∧ w'.cell? ⟨gb160, 1, none⟩ = some (.int .i64 a0_6) ∧ w'.cell? ⟨gb160, 2, none⟩ = some (.int .i64 ((rd_T54 l0_8 a1).f2.f0)) ∧ w'.cell? ⟨gb160, 3, none⟩ = some (.int .i64 ((rd_T54 l0_8 a1).f2.f1)) ∧ w'.cell? ⟨gb160, 4, none⟩ = some (.int .i64 ((rd_T54 l0_8 a1).f2.f2))) (ds := []) #[false, false, false, false, false, false, false, false, false, false, false] (by kernel_rfl) rfl rfl ⟨(blk_cell BK169.out 0).trans rfl, (blk_cell BK169.out 1).trans rfl, (blk_cell BK169.out 2).trans rfl, (blk_cell BK169.out 3).trans rfl, (blk_cell BK160.out 0).trans rfl, (blk_cell BK160.out 1).trans rfl, (blk_cell BK160.out 2).trans rfl, (blk_cell BK160.out 3).trans rfl, (blk_cell BK160.out 4).trans rfl⟩ (fun hHeld => ?_); refine with_tabW sample_At.tab12 sample_At.bits12 (fun HT_ HW_ => ?_)
                        generalize w116.drew = w117 at BK154 BK155 BK158 BK160 BK169 HB hHeld ⊢
                        refine pure_ (i := 2) (N := some 109) (v := ?_) (a' := ?_) #[false, false, true, false, false, false, false, false, false, false, false] rfl rfl (any_of HT_.out (by kernel_rfl)) (fun _ _ _ h => h) (Or.inl ⟨by rfl, ?_⟩) ?_ ?_
                        rotate_left
                        · intro w'
                          go_simp
                          with_reducible rfl
                        rotate_left
                        · simp only [Act.put, List.setIfInBounds_toArray, List.set_cons_zero, List.set_cons_succ, i64_w, i32_w]
                          rfl
                        refine pure_ (i := 3) (N := some 110) (v := ?_) (a' := ?_) #[false, false, true, true, false, false, false, false, false, false, false] rfl rfl (any_of HT_.out (by kernel_rfl)) (fun _ _ _ h => h) (Or.inl ⟨by rfl, ?_⟩) ?_ ?_
                        rotate_left
                        · intro w'
                          go_simp
                          with_reducible rfl
                        rotate_left
                        · simp only [Act.put, List.setIfInBounds_toArray, List.set_cons_zero, List.set_cons_succ, i64_w, i32_w]
                          rfl
                        refine pure_ (i := 4) (N := some 111) (v := ?_) (a' := ?_) #[false, false, true, true, true, false, false, false, false, false, false] rfl rfl (any_of HT_.out (by kernel_rfl)) (fun _ _ _ h => h) (Or.inl ⟨by rfl, ?_⟩) ?_ ?_
                        rotate_left
                        · intro w'
                          go_simp
                          with_reducible rfl
                        rotate_left
                        · simp only [Act.put, List.setIfInBounds_toArray, List.set_cons_zero, List.set_cons_succ, i64_w, i32_w]
                          rfl
                        refine pure_ (i := 5) (N := some 112) (v := ?_) (a' := ?_) #[false, false, true, true, true, true, false, false, false, false, false] rfl rfl (any_of HT_.out (by kernel_rfl)) (fun _ _ _ h => h) (Or.inl ⟨by rfl, ?_⟩) ?_ ?_
                        rotate_left
                        · intro w'
                          go_simp
                          with_reducible rfl
                        rotate_left
                        · simp only [Act.put, List.setIfInBounds_toArray, List.set_cons_zero, List.set_cons_succ, i64_w, i32_w]
                          rfl
                        refine pure_ (i := 7) (N := some 114) (v := ?_) (a' := ?_) #[false, false, true, true, true, true, false, true, false, false, false] rfl rfl (any_of HT_.out (by kernel_rfl)) (fun _ _ _ h => h) (Or.inl ⟨by rfl, ?_⟩) ?_ ?_
                        rotate_left
                        · intro w'
                          go_simp
                          with_reducible rfl
                        rotate_left
                        · simp only [Act.put, List.setIfInBounds_toArray, List.set_cons_zero, List.set_cons_succ, i64_w, i32_w]
                          rfl
                        refine take_ (i := 0) (N := some 107) (v := ?_) (a' := ?_) #[true, false, true, true, true, true, false, true, false, false, false] rfl rfl (take_ofW HT_.out HW_.out (by kernel_rfl)) (fun _ _ _ h => h) (Or.inl ⟨by rfl, ?_⟩) hHeld ?_ ?_
                        rotate_left
                        · rintro w' ⟨s0, s1, s2, s3, s4, s5, s6, s7, s8⟩
                          go_simp
                          with_reducible rfl
                        rotate_left
                        · simp only [Act.put, List.setIfInBounds_toArray, List.set_cons_zero, List.set_cons_succ, i64_w, i32_w]
                          rfl
                        refine take_ (i := 1) (N := some 108) (v := ?_) (a' := ?_) #[true, true, true, true, true, true, false, true, false, false, false] rfl rfl (take_ofW HT_.out HW_.out (by kernel_rfl)) (fun _ _ _ h => h) (Or.inl ⟨by rfl, ?_⟩) hHeld ?_ ?_
                        rotate_left
                        · rintro w' ⟨s0, s1, s2, s3, s4, s5, s6, s7, s8⟩
                          go_simp
                          with_reducible rfl
                        rotate_left
                        · simp only [Act.put, List.setIfInBounds_toArray, List.set_cons_zero, List.set_cons_succ, i64_w, i32_w]
                          rfl
                        refine one_ (i := 6) (N := some 113) #[true, true, true, true, true, true, true, true, false, false, false] rfl rfl (one_of HT_.out (by kernel_rfl)) (by decide) (fun K hK => ?_)
                        refine goes_ Tryd.func18 (by kernel_rfl) rfl #[.agg #[.string (rdOf ByteArray.empty l0_10 ((rd_T54 l0_8 a1).f2.f0)), .int .i64 a0_6, .int .i64 ((rd_T54 l0_8 a1).f2.f0), .int .i64 ((rd_T54 l0_8 a1).f2.f1), .int .i64 ((rd_T54 l0_8 a1).f2.f2)], .int .i64 t161, .int .i64 (wrap64 (t163 + 1)), .int .i64 t162] (by rfl) rfl rfl (by (try simp only [List.map_toArray, List.map_cons, List.map_nil]); first | done | rfl | (simp only [List.length_drop, List.length_take]; rfl)) ?_
                        with_reducible refine (sample_sampler_row.calls (rdOf ByteArray.empty l0_10 ((rd_T54 l0_8 a1).f2.f0)) a0_6 ((rd_T54 l0_8 a1).f2.f0) ((rd_T54 l0_8 a1).f2.f1) ((rd_T54 l0_8 a1).f2.f2) t161 (wrap64 (t163 + 1)) t162 t174 t175 t176 t177 _ A90.out).mono ?_
                        rintro e w118 ⟨rfl, hb⟩
                        refine ⟨_, rfl, ?_⟩
                        have n0_ := Aside0.mk (blk_below (g := gb154) (o := .cells #[.int .i64 a0_0, .int .i64 a0_1, .int .i64 a0_2, .int .i64 a0_3, .int .i64 a0_4, .int .i64 a0_5, .int .i64 a0_6, .int .i64 a0_7, .slice (some ad157) l0_8.length c0_8, .slice A0_9 l0_9.length c0_9, .slice (some ad159) l0_10.length c0_10] 28 (0, 0)) (by (with_reducible repeat (first | refine blk_drewN ?_ _ | refine blk_drew ?_ | refine blk_alloc ?_ _)); exact BK154.out) hb)
                        have n1_ := Aside0.mk (blk_below (g := gb155) (o := .cells #[.int .i64 0, .int .i64 0, .int .i64 0, .int .i64 0] 32 (0, 0)) (by (with_reducible repeat (first | refine blk_drewN ?_ _ | refine blk_drew ?_ | refine blk_alloc ?_ _)); exact BK155.out) hb)
                        have n2_ := Aside0.mk (blk_below (g := gb158) (o := .cells #[.int .i64 ((rd_T54 l0_8 a1).f0), .int .i64 ((rd_T54 l0_8 a1).f1.f0), .int .i64 ((rd_T54 l0_8 a1).f1.f1), .int .i64 ((rd_T54 l0_8 a1).f1.f2), .int .i64 ((rd_T54 l0_8 a1).f1.f3), .int .i64 ((rd_T54 l0_8 a1).f2.f0), .int .i64 ((rd_T54 l0_8 a1).f2.f1), .int .i64 ((rd_T54 l0_8 a1).f2.f2)] 54 (0, 0)) (by (with_reducible repeat (first | refine blk_drewN ?_ _ | refine blk_drew ?_ | refine blk_alloc ?_ _)); exact BK158.out) hb)
                        have n3_ := Aside0.mk (blk_below (g := gb160) (o := .cells #[.string (rdOf ByteArray.empty l0_10 ((rd_T54 l0_8 a1).f2.f0)), .int .i64 a0_6, .int .i64 ((rd_T54 l0_8 a1).f2.f0), .int .i64 ((rd_T54 l0_8 a1).f2.f1), .int .i64 ((rd_T54 l0_8 a1).f2.f2)] 62 (0, 0)) (by (with_reducible repeat (first | refine blk_drewN ?_ _ | refine blk_drew ?_ | refine blk_alloc ?_ _)); exact BK160.out) hb)
                        have n4_ := Aside0.mk (blk_below (g := gb169) (o := .cells #[.int .i64 t165, .int .i64 t166, .int .i64 t167, .int .i64 t168] 32 (0, 0)) (by (with_reducible repeat (first | refine blk_drewN ?_ _ | refine blk_drew ?_ | refine blk_alloc ?_ _)); exact BK169.out) hb)
                        have n5_ := Aside0.mk (below_step (by repeat (first | (with_reducible first | exact HB.out | apply below_alloc | apply pw_below_drewN | apply below_drew1 | refine below_set ?_ GE154.out | refine below_set ?_ GE155.out | refine below_set ?_ GE158.out | refine below_set ?_ GE160.out | refine below_set ?_ GE169.out) | exact HB.out)) hb)
                        clear BK154
                        clear BK155
                        clear BK158
                        clear BK160
                        clear BK169
                        clear HB
                        have BK154 := n0_
                        have BK155 := n1_
                        have BK158 := n2_
                        have BK160 := n3_
                        have BK169 := n4_
                        have HB := n5_
                        clear n0_ n1_ n2_ n3_ n4_ n5_
                        (try clear hb)
                        (try clear hb2)
                        (try clear hk)
                        (try clear hi)
                        refine hK.out _ _ ⟨(blk_cell BK169.out 0).trans rfl, (blk_cell BK169.out 1).trans rfl, (blk_cell BK169.out 2).trans rfl, (blk_cell BK169.out 3).trans rfl, (blk_cell BK160.out 0).trans rfl, (blk_cell BK160.out 1).trans rfl, (blk_cell BK160.out 2).trans rfl, (blk_cell BK160.out 3).trans rfl, (blk_cell BK160.out 4).trans rfl⟩ (fun hHeld => ?_)
                        clear hK K
                        refine norm_ (a' := ?_) ?_ ?_
                        rotate_left
                        · show Act.put _ (some 113) _ = _
                          simp only [Act.put, List.setIfInBounds_toArray, List.set_cons_zero, List.set_cons_succ, i64_w, i32_w]
                          rfl
                        refine one_ (i := 8) (N := some 115) #[true, true, true, true, true, true, true, true, true, false, false] rfl rfl (one_of HT_.out (by kernel_rfl)) (by decide) (fun K hK => ?_)
                        refine goes_ Tryd.func19 (by kernel_rfl) rfl #[.agg #[.int .i64 t165, .int .i64 t166, .int .i64 t167, .int .i64 t168], .agg #[.int .i64 t174, .int .i64 t175, .int .i64 t176, .int .i64 t177], .int .i64 t164] (by rfl) rfl rfl (by (try simp only [List.map_toArray, List.map_cons, List.map_nil]); first | done | rfl | (simp only [List.length_drop, List.length_take]; rfl)) ?_
                        with_reducible refine (sample_mixed.calls t165 t166 t167 t168 t174 t175 t176 t177 t164 t178 t179 t180 t181 _ A91.out).mono ?_
                        rintro e w119 ⟨rfl, hb⟩
                        refine ⟨_, rfl, ?_⟩
                        have n0_ := Aside0.mk (blk_below (g := gb154) (o := .cells #[.int .i64 a0_0, .int .i64 a0_1, .int .i64 a0_2, .int .i64 a0_3, .int .i64 a0_4, .int .i64 a0_5, .int .i64 a0_6, .int .i64 a0_7, .slice (some ad157) l0_8.length c0_8, .slice A0_9 l0_9.length c0_9, .slice (some ad159) l0_10.length c0_10] 28 (0, 0)) (by (with_reducible repeat (first | refine blk_drewN ?_ _ | refine blk_drew ?_ | refine blk_alloc ?_ _)); exact BK154.out) hb)
                        have n1_ := Aside0.mk (blk_below (g := gb155) (o := .cells #[.int .i64 0, .int .i64 0, .int .i64 0, .int .i64 0] 32 (0, 0)) (by (with_reducible repeat (first | refine blk_drewN ?_ _ | refine blk_drew ?_ | refine blk_alloc ?_ _)); exact BK155.out) hb)
                        have n2_ := Aside0.mk (blk_below (g := gb158) (o := .cells #[.int .i64 ((rd_T54 l0_8 a1).f0), .int .i64 ((rd_T54 l0_8 a1).f1.f0), .int .i64 ((rd_T54 l0_8 a1).f1.f1), .int .i64 ((rd_T54 l0_8 a1).f1.f2), .int .i64 ((rd_T54 l0_8 a1).f1.f3), .int .i64 ((rd_T54 l0_8 a1).f2.f0), .int .i64 ((rd_T54 l0_8 a1).f2.f1), .int .i64 ((rd_T54 l0_8 a1).f2.f2)] 54 (0, 0)) (by (with_reducible repeat (first | refine blk_drewN ?_ _ | refine blk_drew ?_ | refine blk_alloc ?_ _)); exact BK158.out) hb)
                        have n3_ := Aside0.mk (blk_below (g := gb160) (o := .cells #[.string (rdOf ByteArray.empty l0_10 ((rd_T54 l0_8 a1).f2.f0)), .int .i64 a0_6, .int .i64 ((rd_T54 l0_8 a1).f2.f0), .int .i64 ((rd_T54 l0_8 a1).f2.f1), .int .i64 ((rd_T54 l0_8 a1).f2.f2)] 62 (0, 0)) (by (with_reducible repeat (first | refine blk_drewN ?_ _ | refine blk_drew ?_ | refine blk_alloc ?_ _)); exact BK160.out) hb)
                        have n4_ := Aside0.mk (blk_below (g := gb169) (o := .cells #[.int .i64 t165, .int .i64 t166, .int .i64 t167, .int .i64 t168] 32 (0, 0)) (by (with_reducible repeat (first | refine blk_drewN ?_ _ | refine blk_drew ?_ | refine blk_alloc ?_ _)); exact BK169.out) hb)
                        have n5_ := Aside0.mk (below_step (by repeat (first | (with_reducible first | exact HB.out | apply below_alloc | apply pw_below_drewN | apply below_drew1 | refine below_set ?_ GE154.out | refine below_set ?_ GE155.out | refine below_set ?_ GE158.out | refine below_set ?_ GE160.out | refine below_set ?_ GE169.out) | exact HB.out)) hb)
                        clear BK154
                        clear BK155
                        clear BK158
                        clear BK160
                        clear BK169
                        clear HB
                        have BK154 := n0_
                        have BK155 := n1_
                        have BK158 := n2_
                        have BK160 := n3_
                        have BK169 := n4_
                        have HB := n5_
                        clear n0_ n1_ n2_ n3_ n4_ n5_
                        (try clear hb)
                        (try clear hb2)
                        (try clear hk)
                        (try clear hi)
                        refine hK.out _ _ ⟨(blk_cell BK169.out 0).trans rfl, (blk_cell BK169.out 1).trans rfl, (blk_cell BK169.out 2).trans rfl, (blk_cell BK169.out 3).trans rfl, (blk_cell BK160.out 0).trans rfl, (blk_cell BK160.out 1).trans rfl, (blk_cell BK160.out 2).trans rfl, (blk_cell BK160.out 3).trans rfl, (blk_cell BK160.out 4).trans rfl⟩ (fun hHeld => ?_)
                        clear hK K
                        refine norm_ (a' := ?_) ?_ ?_
                        rotate_left
                        · show Act.put _ (some 115) _ = _
                          simp only [Act.put, List.setIfInBounds_toArray, List.set_cons_zero, List.set_cons_succ, i64_w, i32_w]
                          rfl
                        refine one_ (i := 9) (N := none) #[true, true, true, true, true, true, true, true, true, true, false] rfl rfl (one_of HT_.out (by kernel_rfl)) (by decide) (fun K hK => ?_)
                        have hs120 : w119.cell? ⟨gb155, 0, none⟩ = some (.int .i64 0) := (blk_cell BK155.out 0).trans rfl
                        have hfs120 := blk_frozen BK155.out 0
                        have hns120_0 := NB154_155.out
                        have hns120_2 := NB158_155.out
                        have hns120_3 := NB160_155.out
                        have hns120_4 := NB169_155.out
                        have hms120_0 := NB155_154.out
                        have hms120_2 := NB155_158.out
                        have hms120_3 := NB155_160.out
                        have hms120_4 := NB155_169.out
                        have hs121 : w119.cell? ⟨gb155, 1, none⟩ = some (.int .i64 0) := (blk_cell BK155.out 1).trans rfl
                        have hfs121 := blk_frozen BK155.out 1
                        have hns121_0 := NB154_155.out
                        have hns121_2 := NB158_155.out
                        have hns121_3 := NB160_155.out
                        have hns121_4 := NB169_155.out
                        have hms121_0 := NB155_154.out
                        have hms121_2 := NB155_158.out
                        have hms121_3 := NB155_160.out
                        have hms121_4 := NB155_169.out
                        have hs122 : w119.cell? ⟨gb155, 2, none⟩ = some (.int .i64 0) := (blk_cell BK155.out 2).trans rfl
                        have hfs122 := blk_frozen BK155.out 2
                        have hns122_0 := NB154_155.out
                        have hns122_2 := NB158_155.out
                        have hns122_3 := NB160_155.out
                        have hns122_4 := NB169_155.out
                        have hms122_0 := NB155_154.out
                        have hms122_2 := NB155_158.out
                        have hms122_3 := NB155_160.out
                        have hms122_4 := NB155_169.out
                        have hs123 : w119.cell? ⟨gb155, 3, none⟩ = some (.int .i64 0) := (blk_cell BK155.out 3).trans rfl
                        have hfs123 := blk_frozen BK155.out 3
                        have hns123_0 := NB154_155.out
                        have hns123_2 := NB158_155.out
                        have hns123_3 := NB160_155.out
                        have hns123_4 := NB169_155.out
                        have hms123_0 := NB155_154.out
                        have hms123_2 := NB155_158.out
                        have hms123_3 := NB155_160.out
                        have hms123_4 := NB155_169.out
                        refine skip_ (w1 := ?_) (by rfl) rfl ?_ ?_
                        rotate_left
                        · go_simp
                          rfl
                        refine hK.out _ _ ⟨((cell_far (p := ⟨gb155, _, none⟩) NB169_155.out _).trans (((cell_far (p := ⟨gb155, _, none⟩) NB169_155.out _).trans (((cell_far (p := ⟨gb155, _, none⟩) NB169_155.out _).trans (((cell_far (p := ⟨gb155, _, none⟩) NB169_155.out _).trans (hHeld.1)))))))), ((cell_far (p := ⟨gb155, _, none⟩) NB169_155.out _).trans (((cell_far (p := ⟨gb155, _, none⟩) NB169_155.out _).trans (((cell_far (p := ⟨gb155, _, none⟩) NB169_155.out _).trans (((cell_far (p := ⟨gb155, _, none⟩) NB169_155.out _).trans (hHeld.2.1)))))))), ((cell_far (p := ⟨gb155, _, none⟩) NB169_155.out _).trans (((cell_far (p := ⟨gb155, _, none⟩) NB169_155.out _).trans (((cell_far (p := ⟨gb155, _, none⟩) NB169_155.out _).trans (((cell_far (p := ⟨gb155, _, none⟩) NB169_155.out _).trans (hHeld.2.2.1)))))))), ((cell_far (p := ⟨gb155, _, none⟩) NB169_155.out _).trans (((cell_far (p := ⟨gb155, _, none⟩) NB169_155.out _).trans (((cell_far (p := ⟨gb155, _, none⟩) NB169_155.out _).trans (((cell_far (p := ⟨gb155, _, none⟩) NB169_155.out _).trans (hHeld.2.2.2.1)))))))), ((cell_far (p := ⟨gb155, _, none⟩) NB160_155.out _).trans (((cell_far (p := ⟨gb155, _, none⟩) NB160_155.out _).trans (((cell_far (p := ⟨gb155, _, none⟩) NB160_155.out _).trans (((cell_far (p := ⟨gb155, _, none⟩) NB160_155.out _).trans (hHeld.2.2.2.2.1)))))))), ((cell_far (p := ⟨gb155, _, none⟩) NB160_155.out _).trans (((cell_far (p := ⟨gb155, _, none⟩) NB160_155.out _).trans (((cell_far (p := ⟨gb155, _, none⟩) NB160_155.out _).trans (((cell_far (p := ⟨gb155, _, none⟩) NB160_155.out _).trans (hHeld.2.2.2.2.2.1)))))))), ((cell_far (p := ⟨gb155, _, none⟩) NB160_155.out _).trans (((cell_far (p := ⟨gb155, _, none⟩) NB160_155.out _).trans (((cell_far (p := ⟨gb155, _, none⟩) NB160_155.out _).trans (((cell_far (p := ⟨gb155, _, none⟩) NB160_155.out _).trans (hHeld.2.2.2.2.2.2.1)))))))), ((cell_far (p := ⟨gb155, _, none⟩) NB160_155.out _).trans (((cell_far (p := ⟨gb155, _, none⟩) NB160_155.out _).trans (((cell_far (p := ⟨gb155, _, none⟩) NB160_155.out _).trans (((cell_far (p := ⟨gb155, _, none⟩) NB160_155.out _).trans (hHeld.2.2.2.2.2.2.2.1)))))))), ((cell_far (p := ⟨gb155, _, none⟩) NB160_155.out _).trans (((cell_far (p := ⟨gb155, _, none⟩) NB160_155.out _).trans (((cell_far (p := ⟨gb155, _, none⟩) NB160_155.out _).trans (((cell_far (p := ⟨gb155, _, none⟩) NB160_155.out _).trans (hHeld.2.2.2.2.2.2.2.2))))))))⟩ (fun hHeld => ?_)
                        clear hK K
                        refine pure_ (i := 10) (N := some 9) (v := ?_) (a' := ?_) #[true, true, true, true, true, true, true, true, true, true, true] rfl rfl (any_of HT_.out (by kernel_rfl)) (fun _ _ _ h => h) (Or.inl ⟨by rfl, ?_⟩) ?_ ?_
                        rotate_left
                        · intro w'
                          go_simp
                          with_reducible rfl
                        rotate_left
                        · simp only [Act.put, List.setIfInBounds_toArray, List.set_cons_zero, List.set_cons_succ, i64_w, i32_w]
                          rfl
                        refine done_ (done_of HT_.out (by kernel_rfl)) ?_
                        try go_wp2
                        refine bodyPost_ret (results_ct rfl _ _ gb155 32 #[.int .i64 t178, .int .i64 t179, .int .i64 t180, .int .i64 t181] (0, 0) _ rfl (by (with_reducible repeat (first | refine blk_drewN ?_ _ | refine blk_drew ?_ | refine blk_alloc ?_ _)); refine blk_put (cs := #[.int .i64 t178, .int .i64 t179, .int .i64 t180, .int .i64 0]) ?_ 3 _ rfl; (with_reducible repeat (first | refine blk_drewN ?_ _ | refine blk_drew ?_ | refine blk_alloc ?_ _)); refine blk_put (cs := #[.int .i64 t178, .int .i64 t179, .int .i64 0, .int .i64 0]) ?_ 2 _ rfl; (with_reducible repeat (first | refine blk_drewN ?_ _ | refine blk_drew ?_ | refine blk_alloc ?_ _)); refine blk_put (cs := #[.int .i64 t178, .int .i64 0, .int .i64 0, .int .i64 0]) ?_ 1 _ rfl; (with_reducible repeat (first | refine blk_drewN ?_ _ | refine blk_drew ?_ | refine blk_alloc ?_ _)); refine blk_put (cs := #[.int .i64 0, .int .i64 0, .int .i64 0, .int .i64 0]) ?_ 0 _ rfl; (with_reducible repeat (first | refine blk_drewN ?_ _ | refine blk_drew ?_ | refine blk_alloc ?_ _)); exact BK155.out) Tryd.underlying32 rfl (by kernel_rfl)) rfl ?_
                        exact ⟨by first | rfl | (simp [errW_none, errW_some] <;> rfl) | (simp [*, errW_none, errW_some] <;> rfl), by repeat (first | (with_reducible first | exact HB.out | apply below_alloc | apply pw_below_drewN | apply below_drew1 | refine below_set ?_ GE154.out | refine below_set ?_ GE155.out | refine below_set ?_ GE158.out | refine below_set ?_ GE160.out | refine below_set ?_ GE169.out) | exact HB.out)⟩
                    · rw [if_neg c57] at H
                      exact absurd H (by simp)
                  · rw [if_neg c56] at H
                    exact absurd H (by simp)
          · rw [if_neg c25] at H
            exact absurd H (by simp)
        · rw [if_neg c24] at H
          exact absurd H (by simp)

end Go.Proofs.YtjcgmjhcaaaieaaDoor.Pr
