-- printed by a program of this session's (wip/mp.sh), out of the translation; the texts of its folder 'given' are typed by hand
import Derived.Test.YthimbpoeoegehaaPr0
import Derived.Test.YthimbpoeoegehaaPr2
import Derived.Test.YthimbpoeoegehaaPr6
import Derived.RegionTactic
import Derived.BigRegion
import Derived.ChangeAlike
namespace Go.Proofs.Ythimbpoeoegehaa.Pr
open Go.RowKit Go.Proofs.YthimbpoeoegehaaW.PrintWords Go.Proofs.YthimbpoeoegehaaW.PrintLast Go.Proofs.YthimbpoeoegehaaW.PrintMore
attribute [local go_sem] max2_int min2_int max_two min_two max_three min_three max_four min_four   -- for this text's walks alone
set_option linter.unusedVariables false
set_option linter.unusedSimpArgs false

/-! ### edge_Box: function 19 -/
def edge_Box.f (l0 : List (S37)) : Option (Int × Int × Int × Int × Bool) := match l0 with
  | [⟨0, false, ⟨0, 0⟩, ⟨0, 0⟩, ⟨33, 32⟩⟩, ⟨0, false, ⟨33, 32⟩, ⟨0, 0⟩, ⟨0, 0⟩⟩] => some (0, 0, 33, 32, true)
  | _ => none
attribute [local go_sem high] eqA27
def edge_Box.awk : List S37 := [⟨0, false, ⟨0, 0⟩, ⟨0, 0⟩, ⟨33, 32⟩⟩, ⟨0, false, ⟨33, 32⟩, ⟨0, 0⟩, ⟨0, 0⟩⟩]
theorem edge_Box.only {l0 : List S37} {r1 r2 r3 r4 : Int} {r5 : Bool} (h : edge_Box.f l0 = some (r1, r2, r3, r4, r5)) : l0 = edge_Box.awk ∧ r1 = 0 ∧ r2 = 0 ∧ r3 = 33 ∧ r4 = 32 ∧ r5 = true := by
  unfold edge_Box.f at h
  split at h
  · simp only [Option.some.injEq, Prod.mk.injEq] at h
    exact ⟨rfl, h.1.symm, h.2.1.symm, h.2.2.1.symm, h.2.2.2.1.symm, h.2.2.2.2.symm⟩
  · cases h
def edge_Box.Bx (w0 W : World) (g h : Nat) (a b c d : Int) : Prop :=
  W.heap[w0.heap.size]? = some (.cells #[.int .i64 0, .int .i64 0] 27 (0, 0)) ∧ W.heap[w0.heap.size + 1]? = some (.cells #[.int .i64 0, .int .i64 0] 27 (0, 0)) ∧
  W.heap[g]? = some (.cells #[.int .i64 a, .int .i64 b] 27 (0, 0)) ∧ W.heap[h]? = some (.cells #[.int .i64 c, .int .i64 d] 27 (0, 0)) ∧ g ≠ h ∧ w0.heap.size + 1 < g ∧ w0.heap.size + 1 < h ∧ Below w0.heap.size w0 W
theorem edge_Box.Bx.step {w0 W W' : World} {g h : Nat} {a b c d : Int} (hb : edge_Box.Bx w0 W g h a b c d) (k : Below W.heap.size W W') : edge_Box.Bx w0 W' g h a b c d :=
  ⟨blk_below hb.1 k, blk_below hb.2.1 k, blk_below hb.2.2.1 k, blk_below hb.2.2.2.1 k, hb.2.2.2.2.1, hb.2.2.2.2.2.1, hb.2.2.2.2.2.2.1, below_step hb.2.2.2.2.2.2.2 k⟩
theorem edge_Box.new (w : World) {z : Obj} (hz : z = .cells #[.int .i64 0, .int .i64 0] 27) : edge_Box.Bx w ((((w.alloc z).alloc z).alloc z).alloc z).drew (w.heap.size + 1 + 1) (w.heap.size + 1 + 1 + 1) 0 0 0 0 := by
  have h1 := blk_alloc (blk_alloc (blk_alloc (blk_new w z) z) z) z
  have h2 := blk_alloc (blk_alloc (blk_new (w.alloc z) z) z) z
  have h3 := blk_alloc (blk_new ((w.alloc z).alloc z) z) z
  have h4 := blk_new (((w.alloc z).alloc z).alloc z) z
  simp only [World.size_alloc] at h1 h2 h3 h4
  subst hz
  exact ⟨h1, h2, h3, h4, by omega, by omega, by omega, by repeat (first | exact Below.refl _ _ | apply below_drew1 | apply below_alloc)⟩
theorem edge_Box.new' (w : World) {z : Obj} (hz : z = .cells #[.int .i64 0, .int .i64 0] 27) : edge_Box.Bx w ((((w.alloc z).alloc z).alloc z).alloc z).drew (w.heap.size + 1 + 1 + 1) (w.heap.size + 1 + 1) 0 0 0 0 := by
  obtain ⟨h1, h2, h3, h4, h5, h6, h7, h8⟩ := edge_Box.new w hz
  exact ⟨h1, h2, h4, h3, Ne.symm h5, h7, h6, h8⟩
/-- The same four cells written anew. -/
theorem edge_Box.Bx.put {w0 W : World} {g h : Nat} {a b c d : Int} (hb : edge_Box.Bx w0 W g h a b c d) (a' b' c' d' : Int) (o : Obj) :
    edge_Box.Bx w0 (((((W.setCell ⟨g, 0, none⟩ (.int .i64 a')).setCell ⟨g, 1, none⟩ (.int .i64 b')).setCell ⟨h, 0, none⟩ (.int .i64 c')).setCell ⟨h, 1, none⟩ (.int .i64 d')).alloc o).drew.drew g h a' b' c' d' := by
  obtain ⟨h1, h2, h3, h4, h5, h6, h7, h8⟩ := hb
  refine ⟨?_, ?_, ?_, ?_, h5, h6, h7, ?_⟩
  · exact blk_drew (blk_drew (blk_alloc (blk_far (blk_far (blk_far (blk_far h1 (by simp; omega) _) (by simp; omega) _) (by simp; omega) _) (by simp; omega) _) _))
  · exact blk_drew (blk_drew (blk_alloc (blk_far (blk_far (blk_far (blk_far h2 (by simp; omega) _) (by simp; omega) _) (by simp; omega) _) (by simp; omega) _) _))
  · exact blk_drew (blk_drew (blk_alloc (blk_far (blk_far (blk_put (blk_put h3 0 _ rfl) 1 _ rfl) (by simpa using h5) _) (by simpa using h5) _) _))
  · exact blk_drew (blk_drew (blk_alloc (blk_put (blk_put (blk_far (blk_far h4 (by simpa using Ne.symm h5) _) (by simpa using Ne.symm h5) _) 0 _ rfl) 1 _ rfl) _))
  · refine below_drew1 (below_drew1 (below_alloc ?_ _))
    exact below_set (below_set (below_set (below_set h8 (by omega)) (by omega)) (by omega)) (by omega)
theorem edge_Box.row {W : World} {g h : Nat} {v : Value} {xs : List S27} (hR : Kd.R k27 27 W 0 (fun k => k ≠ g ∧ k ≠ h) v xs) (x1 x2 x3 x4 : Value) (o : Obj) :
    Kd.R k27 27 (((((W.setCell ⟨g, 0, none⟩ x1).setCell ⟨g, 1, none⟩ x2).setCell ⟨h, 0, none⟩ x3).setCell ⟨h, 1, none⟩ x4).alloc o).drew.drew 0 (fun k => k ≠ g ∧ k ≠ h) v xs := by
  refine Kd.R_drew (Kd.R_drew (Kd.R_alloc ?_ _))
  refine Kd.R_far (Kd.R_far (Kd.R_far (Kd.R_far hR ?_ _) ?_ _) ?_ _) ?_ _
  · exact fun k hk => hk.1
  · exact fun k hk => hk.1
  · exact fun k hk => hk.2
  · exact fun k hk => hk.2
theorem edge_Box.rowC {W : World} {ok : Nat → Prop} {ap : Addr} {c : Nat} {x y : S27} (hR : Kd.R k27 27 W 0 ok (.slice (some ap) 2 c) [x, y]) : Kd.C k27 W (some ap) 2 [x, y] := by
  obtain ⟨A, c', e, _, hC⟩ := Kd.R_reads hR
  simp only [Value.slice.injEq] at e
  obtain ⟨rfl, _, _⟩ := e
  exact hC
set_option maxHeartbeats 16000000 in
set_option maxRecDepth 100000 in
theorem edge_Box.calls (A0 : Option Addr) (c0 : Nat) (l0 : List (S37)) (r1 : Int) (r2 : Int) (r3 : Int) (r4 : Int) (r5 : Bool) (w : World) (hr0 : Kd.C k37 w A0 l0.length l0) (hc0 : l0.length ≤ c0) (h : edge_Box.f l0 = some (r1, r2, r3, r4, r5)) :
    Calls Try.prog 19 #[.slice A0 l0.length c0] w fun e w' => e = .returned (.tuple #[.agg #[.int .i64 r1, .int .i64 r2], .agg #[.int .i64 r3, .int .i64 r4], .bool r5]) ∧ Below w.heap.size w w' := by
  obtain ⟨rfl, rfl, rfl, rfl, rfl, rfl⟩ := edge_Box.only h
  clear h
  have hu37 := Try.underlying37
  have hu27 := Try.underlying27
  have HC := Aside0.mk hr0
  have HC0 := Aside0.mk hc0
  have hlen : edge_Box.awk.length = 2 := rfl
  obtain ⟨ad, e, x0, x1, x2, x3, x4, x5, x6, x7⟩ := at_T37 hr0 0 (by omega) (by decide)
  subst e
  simp [rd_T37, edge_Box.awk, Addr.add_zero'] at x0 x1 x2 x3 x4 x5 x6 x7
  have lt := World.block_lt_of_cell? w _ x1
  simp only at lt
  have lt1 : ad.block < w.heap.size + 1 := by omega
  have lt2 : ad.block < w.heap.size + 1 + 1 := by omega
  have lt3 : ad.block < w.heap.size + 1 + 1 + 1 := by omega
  have ltb2 : ad.block < w.heap.size + 2 := by omega
  have ltb3 : ad.block < w.heap.size + 3 := by omega
  clear hr0 hc0
  rw [hlen] at *
  clear hlen
  go_enter Try.func19, Try.ntmps19
  go_upto_region 3 with (fail)
  go_cut [5, 6] (fun v5 v6 W => ∃ g h : Nat, v5 = .pointer (some ⟨g, 0, none⟩) ∧ v6 = .pointer (some ⟨h, 0, none⟩) ∧ Aside0 (edge_Box.Bx w W g h 0 0 0 0))
  case first =>
    go_region
    all_goals
      go_wp2
      go_meet
      case rel => first | exact ⟨_, _, rfl, rfl, ⟨edge_Box.new w rfl⟩⟩ | exact ⟨_, _, rfl, rfl, ⟨edge_Box.new' w rfl⟩⟩
  case rest =>
    obtain ⟨g, h, rfl, rfl, HB⟩ := hcut
    go_wp2_with fail
    go_loopw [26] (fun i W => ∃ k : Nat, k ≤ 2 ∧ i = .int .i64 k ∧ Aside0 (edge_Box.Bx w W g h 0 0 (if k = 0 then 0 else 33) (if k = 0 then 0 else 32))) (fun i _ => 2 - (intOf i).toNat)
    case atStart => exact ⟨0, by omega, rfl, HB⟩
    case round =>
      obtain ⟨k, hk, rfl, HB1⟩ := hrel
      clear HB x0 x1 x2 x3 x4 x5 x6 x7
      obtain rfl | rfl | rfl : k = 0 ∨ k = 1 ∨ k = 2 := by omega
      · obtain ⟨ad', e, x0, x1, x2, x3, x4, x5, x6, x7⟩ := at_T37 (Kd.C_below HC.out HB1.out.2.2.2.2.2.2.2) 0 (by omega) (by decide)
        obtain rfl := Option.some.inj e
        simp [rd_T37, edge_Box.awk, Addr.add_zero', show ad.add 8 = ⟨ad.block, ad.off + 8, none⟩ from Addr.add_succ' ad 7] at x0 x1 x2 x3 x4 x5 x6 x7
        clear e
        have lgg := blk_lt HB1.out.2.2.1
        have lhh := blk_lt HB1.out.2.2.2.1
        go_wp2_with (first | (go_at_call 25; refine (edge_points.calls _ _ _ _ _ _ _ _ [⟨0, 0⟩, ⟨33, 32⟩] _ (by rfl)).mono ?_; rintro e w2 ⟨v, rfl, ho, hb⟩; have HB2 := Aside0.mk (edge_Box.Bx.step HB1.out (below_then (below_alloc (Below.refl _ _) _) (by simp) hb)); have HQ := Aside0.mk (Kd.R_lower (Kd.R_mono (Kd.R_bound ho) (ok' := fun k => k ≠ g ∧ k ≠ h) (fun k hk => by have := hk.2.1; simp at this; constructor <;> omega)) (Nat.zero_le _)); obtain ⟨A, c, rfl, hl, hC⟩ := Kd.R_reads ho; clear hb ho HB1))
        obtain ⟨ap, e0, y0, y1⟩ := at_T27 hC 0 (by omega) (by decide)
        obtain rfl := e0
        clear y0 y1 hC lgg lhh
        go_loopw [33] (fun i W => ∃ j : Nat, j ≤ 2 ∧ i = .int .i64 j ∧ Aside0 (edge_Box.Bx w W g h 0 0 (if j < 2 then 0 else 33) (if j < 2 then 0 else 32)) ∧ Aside0 (Kd.R k27 27 W 0 (fun k => k ≠ g ∧ k ≠ h) (.slice (some ap) 2 c) [⟨0, 0⟩, ⟨33, 32⟩])) (fun i _ => 2 - (intOf i).toNat)
        case atStart => exact ⟨0, by omega, rfl, HB2, HQ⟩
        case round =>
          obtain ⟨j, hj, rfl, HB3, HQ3⟩ := hrel
          clear HB2 HQ x0 x1 x2 x3 x4 x5 x6 x7
          obtain rfl | rfl | rfl : j = 0 ∨ j = 1 ∨ j = 2 := by omega
          · obtain ⟨z1, z2, z3, z4, z5, z6, z7, z8⟩ := HB3.out
            have c1 := blk_cell z3 0
            have c2 := blk_cell z3 1
            have c3 := blk_cell z4 0
            have c4 := blk_cell z4 1
            have f1 := blk_frozen z3 0
            have f2 := blk_frozen z3 1
            have f3 := blk_frozen z4 0
            have f4 := blk_frozen z4 1
            have lg := blk_lt z3
            have lh := blk_lt z4
            have lg1 : g < wr.heap.size + 1 := by omega
            have lh1 : h < wr.heap.size + 1 := by omega
            have ng : ¬ wr.heap.size = g := by omega
            have nh : ¬ wr.heap.size = h := by omega
            simp at c1 c2 c3 c4
            clear z1 z2 z3 z4 z6 z7 z8
            have hq := edge_Box.rowC HQ3.out
            first
              | (obtain ⟨ap', e, y0, y1⟩ := at_T27 hq (0) (by omega) (by decide))
              | skip
            obtain rfl := Option.some.inj e
            simp [rd_T27, Addr.add_zero', show ap.add 2 = ⟨ap.block, ap.off + 2, none⟩ from Addr.add_succ' ap 1] at y0 y1
            clear e hq
            go_wp2_with fail
            go_region
            go_wp2_with fail
            go_region
            go_wp2
            go_roundw
            case rel => exact ⟨1, by omega, rfl, ⟨HB3.out.put _ _ _ _ _⟩, ⟨edge_Box.row HQ3.out _ _ _ _ _⟩⟩
            case measure => simp [intOf]
          · obtain ⟨z1, z2, z3, z4, z5, z6, z7, z8⟩ := HB3.out
            have c1 := blk_cell z3 0
            have c2 := blk_cell z3 1
            have c3 := blk_cell z4 0
            have c4 := blk_cell z4 1
            have f1 := blk_frozen z3 0
            have f2 := blk_frozen z3 1
            have f3 := blk_frozen z4 0
            have f4 := blk_frozen z4 1
            have lg := blk_lt z3
            have lh := blk_lt z4
            have lg1 : g < wr.heap.size + 1 := by omega
            have lh1 : h < wr.heap.size + 1 := by omega
            have ng : ¬ wr.heap.size = g := by omega
            have nh : ¬ wr.heap.size = h := by omega
            simp at c1 c2 c3 c4
            clear z1 z2 z3 z4 z6 z7 z8
            have hq := edge_Box.rowC HQ3.out
            first
              | (obtain ⟨ap', e, y0, y1⟩ := at_T27 hq (1) (by omega) (by decide))
              | skip
            obtain rfl := Option.some.inj e
            simp [rd_T27, Addr.add_zero', show ap.add 2 = ⟨ap.block, ap.off + 2, none⟩ from Addr.add_succ' ap 1] at y0 y1
            clear e hq
            go_wp2_with fail
            go_region
            go_wp2_with fail
            go_region
            go_wp2
            go_roundw
            case rel => exact ⟨2, by omega, rfl, ⟨HB3.out.put _ _ _ _ _⟩, ⟨edge_Box.row HQ3.out _ _ _ _ _⟩⟩
            case measure => simp [intOf]
          · go_wp2
            go_roundw
            case rel => exact ⟨1, by omega, rfl, HB3⟩
            case measure => simp [intOf]
      · obtain ⟨ad', e, x0, x1, x2, x3, x4, x5, x6, x7⟩ := at_T37 (Kd.C_below HC.out HB1.out.2.2.2.2.2.2.2) 1 (by omega) (by decide)
        obtain rfl := Option.some.inj e
        simp [rd_T37, edge_Box.awk, Addr.add_zero', show ad.add 8 = ⟨ad.block, ad.off + 8, none⟩ from Addr.add_succ' ad 7] at x0 x1 x2 x3 x4 x5 x6 x7
        clear e
        have lgg := blk_lt HB1.out.2.2.1
        have lhh := blk_lt HB1.out.2.2.2.1
        go_wp2_with (first | (go_at_call 25; refine (edge_points.calls _ _ _ _ _ _ _ _ [⟨33, 32⟩, ⟨0, 0⟩] _ (by rfl)).mono ?_; rintro e w2 ⟨v, rfl, ho, hb⟩; have HB2 := Aside0.mk (edge_Box.Bx.step HB1.out (below_then (below_alloc (Below.refl _ _) _) (by simp) hb)); have HQ := Aside0.mk (Kd.R_lower (Kd.R_mono (Kd.R_bound ho) (ok' := fun k => k ≠ g ∧ k ≠ h) (fun k hk => by have := hk.2.1; simp at this; constructor <;> omega)) (Nat.zero_le _)); obtain ⟨A, c, rfl, hl, hC⟩ := Kd.R_reads ho; clear hb ho HB1))
        obtain ⟨ap, e0, y0, y1⟩ := at_T27 hC 0 (by omega) (by decide)
        obtain rfl := e0
        clear y0 y1 hC lgg lhh
        go_loopw [33] (fun i W => ∃ j : Nat, j ≤ 2 ∧ i = .int .i64 j ∧ Aside0 (edge_Box.Bx w W g h 0 0 (33) (32)) ∧ Aside0 (Kd.R k27 27 W 0 (fun k => k ≠ g ∧ k ≠ h) (.slice (some ap) 2 c) [⟨33, 32⟩, ⟨0, 0⟩])) (fun i _ => 2 - (intOf i).toNat)
        case atStart => exact ⟨0, by omega, rfl, HB2, HQ⟩
        case round =>
          obtain ⟨j, hj, rfl, HB3, HQ3⟩ := hrel
          clear HB2 HQ x0 x1 x2 x3 x4 x5 x6 x7
          obtain rfl | rfl | rfl : j = 0 ∨ j = 1 ∨ j = 2 := by omega
          · obtain ⟨z1, z2, z3, z4, z5, z6, z7, z8⟩ := HB3.out
            have c1 := blk_cell z3 0
            have c2 := blk_cell z3 1
            have c3 := blk_cell z4 0
            have c4 := blk_cell z4 1
            have f1 := blk_frozen z3 0
            have f2 := blk_frozen z3 1
            have f3 := blk_frozen z4 0
            have f4 := blk_frozen z4 1
            have lg := blk_lt z3
            have lh := blk_lt z4
            have lg1 : g < wr.heap.size + 1 := by omega
            have lh1 : h < wr.heap.size + 1 := by omega
            have ng : ¬ wr.heap.size = g := by omega
            have nh : ¬ wr.heap.size = h := by omega
            simp at c1 c2 c3 c4
            clear z1 z2 z3 z4 z6 z7 z8
            have hq := edge_Box.rowC HQ3.out
            first
              | (obtain ⟨ap', e, y0, y1⟩ := at_T27 hq (0) (by omega) (by decide))
              | skip
            obtain rfl := Option.some.inj e
            simp [rd_T27, Addr.add_zero', show ap.add 2 = ⟨ap.block, ap.off + 2, none⟩ from Addr.add_succ' ap 1] at y0 y1
            clear e hq
            go_wp2_with fail
            go_region
            go_wp2_with fail
            go_region
            go_wp2
            go_roundw
            case rel => exact ⟨1, by omega, rfl, ⟨HB3.out.put _ _ _ _ _⟩, ⟨edge_Box.row HQ3.out _ _ _ _ _⟩⟩
            case measure => simp [intOf]
          · obtain ⟨z1, z2, z3, z4, z5, z6, z7, z8⟩ := HB3.out
            have c1 := blk_cell z3 0
            have c2 := blk_cell z3 1
            have c3 := blk_cell z4 0
            have c4 := blk_cell z4 1
            have f1 := blk_frozen z3 0
            have f2 := blk_frozen z3 1
            have f3 := blk_frozen z4 0
            have f4 := blk_frozen z4 1
            have lg := blk_lt z3
            have lh := blk_lt z4
            have lg1 : g < wr.heap.size + 1 := by omega
            have lh1 : h < wr.heap.size + 1 := by omega
            have ng : ¬ wr.heap.size = g := by omega
            have nh : ¬ wr.heap.size = h := by omega
            simp at c1 c2 c3 c4
            clear z1 z2 z3 z4 z6 z7 z8
            have hq := edge_Box.rowC HQ3.out
            first
              | (obtain ⟨ap', e, y0, y1⟩ := at_T27 hq (1) (by omega) (by decide))
              | skip
            obtain rfl := Option.some.inj e
            simp [rd_T27, Addr.add_zero', show ap.add 2 = ⟨ap.block, ap.off + 2, none⟩ from Addr.add_succ' ap 1] at y0 y1
            clear e hq
            go_wp2_with fail
            go_region
            go_wp2_with fail
            go_region
            go_wp2
            go_roundw
            case rel => exact ⟨2, by omega, rfl, ⟨HB3.out.put _ _ _ _ _⟩, ⟨edge_Box.row HQ3.out _ _ _ _ _⟩⟩
            case measure => simp [intOf]
          · go_wp2
            go_roundw
            case rel => exact ⟨2, by omega, rfl, HB3⟩
            case measure => simp [intOf]
      · obtain ⟨z1, z2, z3, z4, z5, z6, z7, z8⟩ := HB1.out
        have c1 := blk_cell z3 0
        have c2 := blk_cell z3 1
        have c3 := blk_cell z4 0
        have c4 := blk_cell z4 1
        have d1 := blk_cell z1 0
        have d2 := blk_cell z1 1
        have d3 := blk_cell z2 0
        have d4 := blk_cell z2 1
        have f1 := blk_frozen z1 0
        have f2 := blk_frozen z1 1
        have f3 := blk_frozen z2 0
        have f4 := blk_frozen z2 1
        have n1 : ¬ g = w.heap.size := by omega
        have n2 : ¬ g = w.heap.size + 1 := by omega
        have n3 : ¬ h = w.heap.size := by omega
        have n4 : ¬ h = w.heap.size + 1 := by omega
        simp at c1 c2 c3 c4 d1 d2 d3 d4
        clear z3 z4 z6 z7 HB1
        go_wp2_with fail
        go_region
        go_wp2
        have y1 := blk_drew (blk_far (blk_far (blk_put (blk_put z1 0 (.int .i64 0) rfl) 1 (.int .i64 0) rfl) (p := ⟨w.heap.size + 1, 0, none⟩) (by simp) (.int .i64 33)) (p := ⟨w.heap.size + 1, 1, none⟩) (by simp) (.int .i64 32))
        have y2 := blk_drew (blk_put (blk_put (blk_far (blk_far z2 (p := ⟨w.heap.size, 0, none⟩) (by simp) (.int .i64 0)) (p := ⟨w.heap.size, 1, none⟩) (by simp) (.int .i64 0)) 0 (.int .i64 33) rfl) 1 (.int .i64 32) rfl)
        have y3 := below_drew1 (below_set (j := 1) (v := .int .i64 32) (below_set (j := 0) (v := .int .i64 33) (below_set (j := 1) (v := .int .i64 0) (below_set (j := 0) (v := .int .i64 0) z8 (Nat.le_refl _)) (Nat.le_refl _)) (Nat.le_succ _)) (Nat.le_succ _))
        generalize ((((wr.setCell { block := w.heap.size, off := 0 } (Value.int IntKind.i64 0)).setCell { block := w.heap.size, off := 1 } (Value.int IntKind.i64 0)).setCell { block := w.heap.size + 1, off := 0 } (Value.int IntKind.i64 33)).setCell { block := w.heap.size + 1, off := 1 } (Value.int IntKind.i64 32)).drew = W4 at y1 y2 y3 ⊢
        have e1 := blk_cell y1 0
        have e2 := blk_cell y1 1
        have e3 := blk_cell y2 0
        have e4 := blk_cell y2 1
        simp at e1 e2 e3 e4
        clear c1 c2 c3 c4 d1 d2 d3 d4 f1 f2 f3 f4 n1 n2 n3 n4 z1 z2 y1 y2
        refine bodyPost_ret (v := .tuple #[.agg #[.int .i64 0, .int .i64 0], .agg #[.int .i64 33, .int .i64 32], .bool true]) ?_ rfl ⟨rfl, y3⟩
        simp [results, Try.results19, go_sem, e1, e2, e3, e4]

end Go.Proofs.Ythimbpoeoegehaa.Pr
