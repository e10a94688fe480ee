-- printed by a program of this session's (wip/mp.sh), out of the translation; the texts of its folder 'given' are typed by hand
import Derived.Test.YthimbpoeoegehaaPr0
import Derived.Test.YthimbpoeoegehaaPr2
import Derived.Test.YthimbpoeoegehaaPr3
import Derived.Test.YthimbpoeoegehaaPr10
import Derived.Test.YthimbpoeoegehaaAid
import Derived.Deep.RegionHeld3
import Derived.IntWalk
import Derived.LoopIn
import Derived.LoopNIn
import Derived.OwnWalkIn
import Derived.Shelf.Abstract
import Derived.Shelf.RegionOpen
import Derived.TacticsInMore
namespace Go.Proofs.Ythimbpoeoegehaa.Pr
open Go.RowKit Go.Proofs.YthimbpoeoegehaaW.PrintWords Go.Proofs.YthimbpoeoegehaaW.PrintLast Go.Proofs.YthimbpoeoegehaaW.PrintMore
attribute [local go_sem] max2_int min2_int max_two min_two max_three min_three max_four min_four   -- for this text's walks alone
set_option linter.unusedVariables false
set_option linter.unusedSimpArgs false

/-! ### pochoirlaw25_told: function 9 -/
open Go.Shelf
attribute [local go_sem] Oper.semAt_some

/-- The middle of texel k. -/
def told.mx (c0 c2 em : Int) (k : Nat) : Int := wrap64 ((wrap64 ((wrap64 (2 * (wrap64 (c0 + (k : Int) % c2)))) + 1)) * em)
def told.my (c1 c2 em : Int) (k : Nat) : Int := wrap64 ((wrap64 ((wrap64 (2 * (wrap64 (c1 + (k : Int) / c2)))) + 1)) * em)
def told.encs (c0 c1 c2 em : Int) (k : Nat) : Array Value := #[.int .i64 k, .agg #[.int .i64 (told.mx c0 c2 em k), .int .i64 (told.my c1 c2 em k)]]
theorem told.middle (c0 c1 c2 c3 em : Int) (k : Nat) : cell_middle.f c0 c1 c2 c3 em ((k : Int) % c2) ((k : Int) / c2) = some (told.mx c0 c2 em k, told.my c1 c2 em k) := rfl
/-- The two boxes lie as they lay. -/
def told.Kp (B1 B2 : Nat) (W W' : World) : Prop := W.heap.size ≤ W'.heap.size ∧ W'.heap[B1]? = W.heap[B1]? ∧ W'.heap[B2]? = W.heap[B2]?

set_option maxRecDepth 100000 in
set_option maxHeartbeats 4000000 in
theorem told.all (m : Nat) (hm : 1 ≤ m) (c0 c1 c2 c3 em : Int) (K n : Nat) (hn : (n : Int) = c2 * c3) (b2 : 0 ≤ c2) (b2' : c2 ≤ 256) (b3 : 0 ≤ c3) (b3' : c3 ≤ 256) (hmay : cell_May.f c0 c1 c2 c3 = some true) (hem : cell_em.f em = some true)
    (hK : K ≤ n) (hP : ∀ j, j < K → plane_May.f (told.mx c0 c2 em j) (told.my c1 c2 em j) = some true) (hE : K = n ∨ plane_May.f (told.mx c0 c2 em K) (told.my c1 c2 em K) = some false)
    (B1 B2 : Nat) (w : World) (hB1 : w.heap[B1]? = some (.cells #[.int .i64 c0, .int .i64 c1, .int .i64 c2, .int .i64 c3] 23 (0, 0))) (hB2 : w.heap[B2]? = some (.cells #[.int .i64 em] 3 (0, 0))) :
    SeqStopsK Fence.wide m Try.prog 21 #[.pointer (some ⟨B1, 0, none⟩), .pointer (some ⟨B2, 0, none⟩)] (told.encs c0 c1 c2 em) (told.Kp B1 B2) (fun xs => xs = List.range K) (fun pre => ∃ k, k ≤ K ∧ pre = List.range k) K w := fun l J Jx W hW hJ hJx hY h0 => by
  have hb1 := blk_below hB1 hW
  have hb2 := blk_below hB2 hW
  clear hB1 hB2
  refine callsIn_of_wp Try.func21 rfl trivial ?_ rfl
  simp only [Try.ntmps21, List.size_toArray, List.length_cons, List.length_nil, Nat.reduceAdd, Nat.reduceSub, Array.replicate_succ, Array.replicate_zero, List.push_toArray, List.append_toArray, List.nil_append, List.cons_append]
  have hcc : c2 * c3 = (n : Int) := hn.symm
  have hn64 : (n : Int) ≤ 65536 := by
    rw [← hcc]
    have := Int.mul_le_mul b2' b3' (by omega) (by omega)
    omega
  clear hn
  have HE := Aside0.mk hE
  have HP := Aside0.mk hP
  have HB1 := Aside0.mk hb1
  have HB2 := Aside0.mk hb2
  clear hE hP hb1 hb2
  have a0 : W.cell? ⟨B1, 0, none⟩ = some (.int .i64 c0) := (blk_cell HB1.out 0).trans rfl
  have a1 : W.cell? ⟨B1, 1, none⟩ = some (.int .i64 c1) := (blk_cell HB1.out 1).trans rfl
  have a2 : W.cell? ⟨B1, 2, none⟩ = some (.int .i64 c2) := (blk_cell HB1.out 2).trans rfl
  have a3 : W.cell? ⟨B1, 3, none⟩ = some (.int .i64 c3) := (blk_cell HB1.out 3).trans rfl
  have t7 : Fence.wide.fn 7 := trivial
  have t11 : Fence.wide.fn 11 := trivial
  have t13 : Fence.wide.fn 13 := trivial
  have t14 : Fence.wide.fn 14 := trivial
  gi_wp2_with (first | (gi_at_call 7; refine (callsIn_wide.2 (cell_May.calls c0 c1 c2 c3 true _ hmay)).mono ?_; rintro e w1 ⟨rfl, hq1⟩; have a5 : w1.cell? ⟨B2, 0, none⟩ = some (.int .i64 em) := (blk_cell (blk_below HB2.out hq1) 0).trans rfl) | (gi_at_call 11; refine (callsIn_wide.2 (cell_em.calls em true _ hem)).mono ?_; rintro e w2 ⟨rfl, hq2⟩; have hq3 : Below W.heap.size W w2 := below_step hq1 (Drawn0.below hq2); have a6 : w2.cell? ⟨B1, 2, none⟩ = some (.int .i64 c2) := (blk_cell (blk_below HB1.out hq3) 2).trans rfl; have a7 : w2.cell? ⟨B1, 3, none⟩ = some (.int .i64 c3) := (blk_cell (blk_below HB1.out hq3) 3).trans rfl))
  have H0 := Aside0.mk (hJ _ _ _ none h0 (grown_of_below hq3 none) (fun r e => by cases e))
  have HQ1 := Aside0.mk (blk_below HB1.out hq3)
  have HQ2 := Aside0.mk (blk_below HB2.out hq3)
  clear a0 a1 a2 a3 a5 a6 a7 hq1 hq2 HB1 HB2 h0
  gi_loopw [19] (fun i wr => ∃ k : Nat, k ≤ K ∧ i = .int .i64 k ∧ Aside0 (J (List.range k) wr) ∧ Aside0 (wr.heap[B1]? = some (.cells #[.int .i64 c0, .int .i64 c1, .int .i64 c2, .int .i64 c3] 23 (0, 0))) ∧ Aside0 (wr.heap[B2]? = some (.cells #[.int .i64 em] 3 (0, 0)))) (fun i _ => n - (intOf i).toNat)
  case atStart => exact ⟨0, Nat.zero_le _, rfl, H0, HQ1, HQ2⟩
  case round =>
    obtain ⟨k, hk, rfl, HJ, HB1, HB2⟩ := hrel
    clear HQ1 HQ2 H0 hq3
    have a0 : wr.cell? ⟨B1, 0, none⟩ = some (.int .i64 c0) := (blk_cell HB1.out 0).trans rfl
    have a1 : wr.cell? ⟨B1, 1, none⟩ = some (.int .i64 c1) := (blk_cell HB1.out 1).trans rfl
    have a2 : wr.cell? ⟨B1, 2, none⟩ = some (.int .i64 c2) := (blk_cell HB1.out 2).trans rfl
    have a3 : wr.cell? ⟨B1, 3, none⟩ = some (.int .i64 c3) := (blk_cell HB1.out 3).trans rfl
    have a5 : wr.cell? ⟨B2, 0, none⟩ = some (.int .i64 em) := (blk_cell HB2.out 0).trans rfl
    by_cases hlt : k < n
    · have b2p : 1 ≤ c2 := by
        rcases Int.lt_or_le 0 c2 with h | h
        · omega
        · obtain rfl : c2 = 0 := by omega
          rw [Int.zero_mul] at hcc
          omega
      have q2 : wrap64 ((k : Int) / c2) = (k : Int) / c2 := by
        have h1 : 0 ≤ (k : Int) / c2 := Int.ediv_nonneg (by omega) (by omega)
        have h2 : (k : Int) / c2 ≤ k := Int.ediv_le_self _ (by omega)
        unfold wrap64
        omega
      have q3 : ¬ c2 = 0 := by omega
      have q1 : Int.tmod (k : Int) c2 = (k : Int) % c2 := Int.tmod_eq_emod_of_nonneg (by omega)
      gi_wp2
      refine wpIn_wide.2 ?_
      obtain ⟨S, hS⟩ : ∃ S : World → Prop, S = fun w' => w'.heap[B1]? = some (.cells #[.int .i64 c0, .int .i64 c1, .int .i64 c2, .int .i64 c3] 23 (0, 0)) ∧ w'.heap[B2]? = some (.cells #[.int .i64 em] 3 (0, 0)) ∧ Below wr.heap.size wr w' := ⟨_, rfl⟩
      have HS := Aside0.mk hS
      have hS0 : S wr.drew := by rw [hS]; exact ⟨HB1.out, HB2.out, below_drew1 (Below.refl _ _)⟩
      have hSb : ∀ A B, S A → Below A.heap.size A B → S B := by rw [hS]; exact fun A B h k => ⟨blk_below h.1 k, blk_below h.2.1 k, below_step h.2.2 k⟩
      have hSs : ∀ (A : World) (g j : Nat) (v : Value) (cs : Array Value), S A → wr.heap.size ≤ g → A.heap[g]? = some (.cells cs 27 (0, 0)) → S (A.setCell ⟨g, j, none⟩ v) := by
        rw [hS]
        exact fun A g j v cs h hge hb => ⟨blk_far h.1 (blk_ne h.1 hb (by decide)) v, blk_far h.2.1 (blk_ne h.2.1 hb (by decide)) v, below_set h.2.2 hge⟩
      have hSz : ∀ A, S A → wr.heap.size ≤ A.heap.size := by rw [hS]; exact fun A h => h.2.2.size
      obtain ⟨wb, hwb⟩ : ∃ wb, wb = wr := ⟨_, rfl⟩
      rw [← hwb] at hSs hSz
      have HWB := Aside0.mk hwb
      clear hS hwb a0 a1 a2 a3 a5
      refine start_ (n := 13) (S := S) (ds := []) #[false, false, false, false, false, false, false, false, false, false, false, false, false] (by kernel_rfl) rfl rfl hS0 (fun hHeld => ?_)
      generalize wr.drew = wd at hHeld ⊢
      refine pure_ (i := 2) (N := some 24) (v := ?_) (a' := ?_) #[false, false, true, false, false, false, false, false, false, false, false, false, false] rfl rfl (by kernel_rfl) (fun _ _ _ h => h) (Or.inl ⟨by rfl, ?_⟩) ?_ ?_
      rotate_left
      · intro w'
        go_simp
        with_reducible rfl
      rotate_left
      · simp only [Act.put, List.setIfInBounds_toArray, List.set_cons_zero, List.set_cons_succ, i64_w, i32_w]
        rfl
      refine pure_ (i := 3) (N := some 25) (v := ?_) (a' := ?_) #[false, false, true, true, false, false, false, false, false, false, false, false, false] rfl rfl (by kernel_rfl) (fun _ _ _ h => h) (Or.inl ⟨by rfl, ?_⟩) ?_ ?_
      rotate_left
      · intro w'
        go_simp
        with_reducible rfl
      rotate_left
      · simp only [Act.put, List.setIfInBounds_toArray, List.set_cons_zero, List.set_cons_succ, i64_w, i32_w]
        rfl
      refine pure_ (i := 6) (N := some 28) (v := ?_) (a' := ?_) #[false, false, true, true, false, false, true, false, false, false, false, false, false] rfl rfl (by kernel_rfl) (fun _ _ _ h => h) (Or.inl ⟨by rfl, ?_⟩) ?_ ?_
      rotate_left
      · intro w'
        go_simp
        with_reducible rfl
      rotate_left
      · simp only [Act.put, List.setIfInBounds_toArray, List.set_cons_zero, List.set_cons_succ, i64_w, i32_w]
        rfl
      refine pure_ (i := 7) (N := some 29) (v := ?_) (a' := ?_) #[false, false, true, true, false, false, true, true, false, false, false, false, false] rfl rfl (by kernel_rfl) (fun _ _ _ h => h) (Or.inl ⟨by rfl, ?_⟩) ?_ ?_
      rotate_left
      · intro w'
        go_simp
        with_reducible rfl
      rotate_left
      · simp only [Act.put, List.setIfInBounds_toArray, List.set_cons_zero, List.set_cons_succ, i64_w, i32_w]
        rfl
      refine take_ (i := 0) (N := some 22) (v := ?_) (a' := ?_) #[true, false, true, true, false, false, true, true, false, false, false, false, false] rfl rfl (by kernel_rfl) (fun _ _ _ h => h) (Or.inl ⟨by rfl, ?_⟩) hHeld ?_ ?_
      rotate_left
      · intro w' s_
        rw [HS.out] at s_
        obtain ⟨s1, s2, _⟩ := s_
        have a0 : w'.cell? ⟨B1, 0, none⟩ = some (.int .i64 c0) := (blk_cell s1 0).trans rfl
        have a1 : w'.cell? ⟨B1, 1, none⟩ = some (.int .i64 c1) := (blk_cell s1 1).trans rfl
        have a2 : w'.cell? ⟨B1, 2, none⟩ = some (.int .i64 c2) := (blk_cell s1 2).trans rfl
        have a3 : w'.cell? ⟨B1, 3, none⟩ = some (.int .i64 c3) := (blk_cell s1 3).trans rfl
        have a4 : w'.cell? ⟨B2, 0, none⟩ = some (.int .i64 em) := (blk_cell s2 0).trans rfl
        go_simp
        with_reducible rfl
      rotate_left
      · simp only [Act.put, List.setIfInBounds_toArray, List.set_cons_zero, List.set_cons_succ, i64_w, i32_w]
        rfl
      refine take_ (i := 1) (N := some 23) (v := ?_) (a' := ?_) #[true, true, true, true, false, false, true, true, false, false, false, false, false] rfl rfl (by kernel_rfl) (fun _ _ _ h => h) (Or.inl ⟨by rfl, ?_⟩) hHeld ?_ ?_
      rotate_left
      · intro w' s_
        rw [HS.out] at s_
        obtain ⟨s1, s2, _⟩ := s_
        have a0 : w'.cell? ⟨B1, 0, none⟩ = some (.int .i64 c0) := (blk_cell s1 0).trans rfl
        have a1 : w'.cell? ⟨B1, 1, none⟩ = some (.int .i64 c1) := (blk_cell s1 1).trans rfl
        have a2 : w'.cell? ⟨B1, 2, none⟩ = some (.int .i64 c2) := (blk_cell s1 2).trans rfl
        have a3 : w'.cell? ⟨B1, 3, none⟩ = some (.int .i64 c3) := (blk_cell s1 3).trans rfl
        have a4 : w'.cell? ⟨B2, 0, none⟩ = some (.int .i64 em) := (blk_cell s2 0).trans rfl
        go_simp
        with_reducible rfl
      rotate_left
      · simp only [Act.put, List.setIfInBounds_toArray, List.set_cons_zero, List.set_cons_succ, i64_w, i32_w]
        rfl
      refine take_ (i := 4) (N := some 26) (v := ?_) (a' := ?_) #[true, true, true, true, true, false, true, true, false, false, false, false, false] rfl rfl (by kernel_rfl) (fun _ _ _ h => h) (Or.inl ⟨by rfl, ?_⟩) hHeld ?_ ?_
      rotate_left
      · intro w' s_
        rw [HS.out] at s_
        obtain ⟨s1, s2, _⟩ := s_
        have a0 : w'.cell? ⟨B1, 0, none⟩ = some (.int .i64 c0) := (blk_cell s1 0).trans rfl
        have a1 : w'.cell? ⟨B1, 1, none⟩ = some (.int .i64 c1) := (blk_cell s1 1).trans rfl
        have a2 : w'.cell? ⟨B1, 2, none⟩ = some (.int .i64 c2) := (blk_cell s1 2).trans rfl
        have a3 : w'.cell? ⟨B1, 3, none⟩ = some (.int .i64 c3) := (blk_cell s1 3).trans rfl
        have a4 : w'.cell? ⟨B2, 0, none⟩ = some (.int .i64 em) := (blk_cell s2 0).trans rfl
        go_simp
        with_reducible rfl
      rotate_left
      · simp only [Act.put, List.setIfInBounds_toArray, List.set_cons_zero, List.set_cons_succ, i64_w, i32_w]
        rfl
      refine take_ (i := 8) (N := some 30) (v := ?_) (a' := ?_) #[true, true, true, true, true, false, true, true, true, false, false, false, false] rfl rfl (by kernel_rfl) (fun _ _ _ h => h) (Or.inl ⟨by rfl, ?_⟩) hHeld ?_ ?_
      rotate_left
      · intro w' s_
        rw [HS.out] at s_
        obtain ⟨s1, s2, _⟩ := s_
        have a0 : w'.cell? ⟨B1, 0, none⟩ = some (.int .i64 c0) := (blk_cell s1 0).trans rfl
        have a1 : w'.cell? ⟨B1, 1, none⟩ = some (.int .i64 c1) := (blk_cell s1 1).trans rfl
        have a2 : w'.cell? ⟨B1, 2, none⟩ = some (.int .i64 c2) := (blk_cell s1 2).trans rfl
        have a3 : w'.cell? ⟨B1, 3, none⟩ = some (.int .i64 c3) := (blk_cell s1 3).trans rfl
        have a4 : w'.cell? ⟨B2, 0, none⟩ = some (.int .i64 em) := (blk_cell s2 0).trans rfl
        go_simp
        with_reducible rfl
      rotate_left
      · simp only [Act.put, List.setIfInBounds_toArray, List.set_cons_zero, List.set_cons_succ, i64_w, i32_w]
        rfl
      refine pure_ (i := 5) (N := some 27) (v := ?_) (a' := ?_) #[true, true, true, true, true, true, true, true, true, false, false, false, false] rfl rfl (by kernel_rfl) (fun _ _ _ h => h) (Or.inl ⟨by rfl, ?_⟩) ?_ ?_
      rotate_left
      · intro w'
        go_simp
        with_reducible rfl
      rotate_left
      · simp only [Act.put, List.setIfInBounds_toArray, List.set_cons_zero, List.set_cons_succ, i64_w, i32_w]
        rfl
      refine pure_ (i := 9) (N := some 31) (v := ?_) (a' := ?_) #[true, true, true, true, true, true, true, true, true, true, false, false, false] rfl rfl (by kernel_rfl) (fun _ _ _ h => h) (Or.inl ⟨by rfl, ?_⟩) ?_ ?_
      rotate_left
      · intro w'
        go_simp
        with_reducible rfl
      rotate_left
      · simp only [Act.put, List.setIfInBounds_toArray, List.set_cons_zero, List.set_cons_succ, i64_w, i32_w, q2]
        rfl
      refine join_ (σ := Nat) 1 #[true, true, true, true, true, true, true, true, true, true, true, true, false] (fun s_ => [(32, .agg #[.int .i64 (told.mx c0 c2 em k), .int .i64 (told.my c1 c2 em k)]), (5, .pointer (some ⟨s_, 0, none⟩))]) (fun s_ w' => S w' ∧ w'.heap[s_]? = some (.cells #[.int .i64 0, .int .i64 0] 27 (0, 0)) ∧ wb.heap.size ≤ s_) ?_ ?_
      rotate_left
      · intro hCont
        refine two_ (i := 10) (j := 11) (Ni := some 32) (Nj := some 5) #[true, true, true, true, true, true, true, true, true, true, true, false, false] #[true, true, true, true, true, true, true, true, true, true, false, true, false] rfl rfl rfl rfl (by kernel_rfl) (by decide) (by decide) (fun K hK => ?_) (fun K hK => ?_)
        · skip
          refine goes_ Try.func13 (by kernel_rfl) rfl #[.agg #[.int .i64 c0, .int .i64 c1, .int .i64 c2, .int .i64 c3], .int .i64 em, .int .i64 ((k : Int) % c2), .int .i64 ((k : Int) / c2)] (by rfl) rfl rfl (by (try simp only [List.map_toArray, List.map_cons, List.map_nil]); first | done | rfl) ?_
          with_reducible refine (cell_middle.calls c0 c1 c2 c3 em _ _ _ _ _ (told.middle c0 c1 c2 c3 em k)).mono ?_
          rintro e w' ⟨rfl, hq⟩
          refine ⟨_, rfl, ?_⟩
          refine hK.out _ _ (hSb _ _ hHeld hq) (fun hHeld => ?_)
          clear hK K
          refine norm_ (a' := ?_) ?_ ?_
          rotate_left
          · show Act.put _ (some 32) _ = _
            simp only [Act.put, List.setIfInBounds_toArray, List.set_cons_zero, List.set_cons_succ, i64_w, i32_w]
            rfl
          refine one_ (i := 11) (N := some 5) #[true, true, true, true, true, true, true, true, true, true, true, true, false] rfl rfl (by kernel_rfl) (by decide) (fun K hK => ?_)
          refine box_step ?hg (N := 5) ?hd (cs := #[.int .i64 0, .int .i64 0]) (t := 27) ?hr ?_; (case hd => rfl); (case hg => rfl); (case hr => first | (go_simp; done) | (go_simp; rfl))
          intro g_ hg w3 hbox hb
          have hge : wb.heap.size ≤ g_ := by rw [hg]; exact hSz _ hHeld
          refine hK.out _ _ (hSb _ _ hHeld hb) (fun hHeld => ?_)
          clear hK K
          refine norm_ (a' := ?_) ?_ ?_
          rotate_left
          · show Act.put _ (some 5) _ = _
            simp only [Act.put, List.setIfInBounds_toArray, List.set_cons_zero, List.set_cons_succ, i64_w, i32_w]
            rfl
          exact norm_ (by first | (simp only [putAll, Act.put, List.setIfInBounds_toArray, List.set_cons_zero, List.set_cons_succ]; done) | (simp only [putAll, Act.put, List.setIfInBounds_toArray, List.set_cons_zero, List.set_cons_succ]; rfl)) (hCont g_ _ ⟨hHeld, hbox, hge⟩)
        · skip
          refine box_step ?hg (N := 5) ?hd (cs := #[.int .i64 0, .int .i64 0]) (t := 27) ?hr ?_; (case hd => rfl); (case hg => rfl); (case hr => first | (go_simp; done) | (go_simp; rfl))
          intro g_ hg w3 hbox hb
          have hge : wb.heap.size ≤ g_ := by rw [hg]; exact hSz _ hHeld
          refine hK.out _ _ (hSb _ _ hHeld hb) (fun hHeld => ?_)
          clear hK K
          refine norm_ (a' := ?_) ?_ ?_
          rotate_left
          · show Act.put _ (some 5) _ = _
            simp only [Act.put, List.setIfInBounds_toArray, List.set_cons_zero, List.set_cons_succ, i64_w, i32_w]
            rfl
          refine one_ (i := 10) (N := some 32) #[true, true, true, true, true, true, true, true, true, true, true, true, false] rfl rfl (by kernel_rfl) (by decide) (fun K hK => ?_)
          refine goes_ Try.func13 (by kernel_rfl) rfl #[.agg #[.int .i64 c0, .int .i64 c1, .int .i64 c2, .int .i64 c3], .int .i64 em, .int .i64 ((k : Int) % c2), .int .i64 ((k : Int) / c2)] (by rfl) rfl rfl (by (try simp only [List.map_toArray, List.map_cons, List.map_nil]); first | done | rfl) ?_
          with_reducible refine (cell_middle.calls c0 c1 c2 c3 em _ _ _ _ _ (told.middle c0 c1 c2 c3 em k)).mono ?_
          rintro e w' ⟨rfl, hq⟩
          refine ⟨_, rfl, ?_⟩
          refine hK.out _ _ (hSb _ _ hHeld hq) (fun hHeld => ?_)
          clear hK K
          refine norm_ (a' := ?_) ?_ ?_
          rotate_left
          · show Act.put _ (some 32) _ = _
            simp only [Act.put, List.setIfInBounds_toArray, List.set_cons_zero, List.set_cons_succ, i64_w, i32_w]
            rfl
          exact norm_ (by first | (simp only [putAll, Act.put, List.setIfInBounds_toArray, List.set_cons_zero, List.set_cons_succ]; done) | (simp only [putAll, Act.put, List.setIfInBounds_toArray, List.set_cons_zero, List.set_cons_succ]; rfl)) (hCont g_ _ ⟨hHeld, blk_below hbox hq, hge⟩)
      rintro g_ w4 ⟨hHeld, hbox, hge⟩
      refine norm_ (a' := ?_) ?_ ?_
      rotate_left
      · simp only [putAll, Act.put, List.setIfInBounds_toArray, List.set_cons_zero, List.set_cons_succ]
        rfl
      refine one_ (i := 12) (N := none) #[true, true, true, true, true, true, true, true, true, true, true, true, true] rfl rfl (by kernel_rfl) (by decide) (fun K hK => ?_)
      have hc0 : w4.cell? ⟨g_, 0, none⟩ = some (.int .i64 0) := (blk_cell hbox 0).trans rfl
      have hc1 : w4.cell? ⟨g_, 1, none⟩ = some (.int .i64 0) := (blk_cell hbox 1).trans rfl
      have hf0 := blk_frozen hbox 0
      have hf1 := blk_frozen hbox 1
      refine skip_ (w1 := ?_) (by rfl) rfl ?_ ?_
      rotate_left
      · go_simp
        rfl
      have hbox2 := blk_put (blk_put hbox 0 (.int .i64 (told.mx c0 c2 em k)) rfl) 1 (.int .i64 (told.my c1 c2 em k)) rfl
      refine hK.out _ _ (hSs _ _ _ _ _ (hSs _ _ _ _ _ hHeld hge hbox) hge (blk_put hbox 0 (.int .i64 (told.mx c0 c2 em k)) rfl)) (fun hHeld => ?_)
      clear hK K hc0 hc1 hf0 hf1
      refine done_ (by kernel_rfl) ?_
      clear hbox
      generalize (w4.setCell { block := g_, off := 0 } (Value.int IntKind.i64 (told.mx c0 c2 em k))).setCell { block := g_, off := 1 } (Value.int IntKind.i64 (told.my c1 c2 em k)) = w5 at hHeld hbox2 ⊢
      obtain rfl := HWB.out
      have HH := HS.out ▸ hHeld
      obtain ⟨z1, z2, z3⟩ := HH
      clear hHeld hS0 hSb hSs hSz HS HWB q2 q3
      have e0 : w5.cell? ⟨g_, 0, none⟩ = some (.int .i64 (told.mx c0 c2 em k)) := (blk_cell hbox2 0).trans rfl
      have e1 : w5.cell? ⟨g_, 1, none⟩ = some (.int .i64 (told.my c1 c2 em k)) := (blk_cell hbox2 1).trans rfl
      by_cases hkK : k < K
      · have hp := HP.out k hkK
        gi_wp2_with (gi_at_call 14; refine (callsIn_wide.2 (plane_May.calls _ _ true _ hp)).mono ?_; rintro e w6 ⟨rfl, hq⟩; have hJ6 := hJ _ wb w6 none HJ.out (grown_of_below (below_step z3 hq) none) (fun r e => by cases e); obtain ⟨fn, tmps, assign, body, hy, hR⟩ := hY (List.range k) k w6 hJ6 (by simpa using hkK); dsimp only [told.encs] at hy; have e2 : w6.cell? ⟨g_, 0, none⟩ = some (.int .i64 (told.mx c0 c2 em k)) := (blk_cell (blk_below hbox2 hq) 0).trans rfl; have e3 : w6.cell? ⟨g_, 1, none⟩ = some (.int .i64 (told.my c1 c2 em k)) := (blk_cell (blk_below hbox2 hq) 1).trans rfl)
        refine hR.mono ?_
        rintro e w7 (⟨rfl, hJ7, hk7⟩ | ⟨rfl, hJx7⟩)
        · gi_wp2
          go_roundw
          case rel => exact ⟨k + 1, by omega, by simp, by rw [List.range_succ]; exact ⟨hJ7⟩, ⟨hk7.2.1.trans (blk_below z1 hq)⟩, ⟨hk7.2.2.trans (blk_below z2 hq)⟩⟩
          case measure => simp [intOf]; omega
        · gi_wp2
          refine bodyPost_ret (results_none rfl _ _ _) rfl ?_
          exact ⟨⟨_, rfl⟩, .inr ⟨_, ⟨k + 1, by omega, (List.range_succ).symm⟩, hJx7⟩⟩
      · obtain rfl : k = K := by omega
        have hp : plane_May.f (told.mx c0 c2 em k) (told.my c1 c2 em k) = some false := by
          rcases HE.out with h | h
          · omega
          · exact h
        gi_wp2_with (gi_at_call 14; refine (callsIn_wide.2 (plane_May.calls _ _ false _ hp)).mono ?_; rintro e w6 ⟨rfl, hq⟩)
        refine ⟨fun _ h => (by cases h), ?_⟩
        gi_wp2
        refine bodyPost_ret (results_none rfl _ _ _) rfl ?_
        exact ⟨⟨_, rfl⟩, .inl ⟨_, rfl, hJ _ wb w6 none HJ.out (grown_of_below (below_step z3 hq) none) (fun r e => by cases e)⟩⟩
    · gi_wp2
      go_end0
      obtain rfl : k = K := by omega
      exact ⟨⟨_, rfl⟩, .inl ⟨_, rfl, HJ.out⟩⟩

set_option maxRecDepth 100000 in
set_option maxHeartbeats 4000000 in
/-- A cell that may not be, or an em: no texel comes. -/
theorem told.no (m : Nat) (hm : 1 ≤ m) (c0 c1 c2 c3 em : Int) (b : Bool) (hmay : cell_May.f c0 c1 c2 c3 = some b) (hem : b = true → cell_em.f em = some false)
    (B1 B2 : Nat) (w : World) (hB1 : w.heap[B1]? = some (.cells #[.int .i64 c0, .int .i64 c1, .int .i64 c2, .int .i64 c3] 23 (0, 0))) (hB2 : w.heap[B2]? = some (.cells #[.int .i64 em] 3 (0, 0))) :
    SeqStopsK Fence.wide m Try.prog 21 #[.pointer (some ⟨B1, 0, none⟩), .pointer (some ⟨B2, 0, none⟩)] (told.encs c0 c1 c2 em) (told.Kp B1 B2) (fun xs => xs = List.range 0) (fun pre => ∃ k, k ≤ 0 ∧ pre = List.range k) 0 w := fun l J Jx W hW hJ hJx hY h0 => by
  have HB1 := Aside0.mk (blk_below hB1 hW)
  have HB2 := Aside0.mk (blk_below hB2 hW)
  clear hB1 hB2
  refine callsIn_of_wp Try.func21 rfl trivial ?_ rfl
  simp only [Try.ntmps21, List.size_toArray, List.length_cons, List.length_nil, Nat.reduceAdd, Nat.reduceSub, Array.replicate_succ, Array.replicate_zero, List.push_toArray, List.append_toArray, List.nil_append, List.cons_append]
  have a0 : W.cell? ⟨B1, 0, none⟩ = some (.int .i64 c0) := (blk_cell HB1.out 0).trans rfl
  have a1 : W.cell? ⟨B1, 1, none⟩ = some (.int .i64 c1) := (blk_cell HB1.out 1).trans rfl
  have a2 : W.cell? ⟨B1, 2, none⟩ = some (.int .i64 c2) := (blk_cell HB1.out 2).trans rfl
  have a3 : W.cell? ⟨B1, 3, none⟩ = some (.int .i64 c3) := (blk_cell HB1.out 3).trans rfl
  have t7 : Fence.wide.fn 7 := trivial
  have t11 : Fence.wide.fn 11 := trivial
  cases b with
  | false =>
    clear hem
    gi_wp2_with (gi_at_call 7; refine (callsIn_wide.2 (cell_May.calls c0 c1 c2 c3 false _ hmay)).mono ?_; rintro e w1 ⟨rfl, hq1⟩)
    refine bodyPost_ret (results_none rfl _ _ _) rfl ?_
    exact ⟨⟨_, rfl⟩, .inl ⟨_, rfl, hJ _ _ _ none h0 (grown_of_below hq1 none) (fun r e => by cases e)⟩⟩
  | true =>
    have hem' := hem rfl
    clear hem
    gi_wp2_with (first | (gi_at_call 7; refine (callsIn_wide.2 (cell_May.calls c0 c1 c2 c3 true _ hmay)).mono ?_; rintro e w1 ⟨rfl, hq1⟩; have a5 : w1.cell? ⟨B2, 0, none⟩ = some (.int .i64 em) := (blk_cell (blk_below HB2.out hq1) 0).trans rfl) | (gi_at_call 11; refine (callsIn_wide.2 (cell_em.calls em false _ hem')).mono ?_; rintro e w2 ⟨rfl, hq2⟩))
    refine bodyPost_ret (results_none rfl _ _ _) rfl ?_
    exact ⟨⟨_, rfl⟩, .inl ⟨_, rfl, hJ _ _ _ none h0 (grown_of_below (below_step hq1 (Drawn0.below hq2)) none) (fun r e => by cases e)⟩⟩

set_option maxRecDepth 100000 in
/-- cell.All: what it captures is boxed. -/
theorem told.maker (c0 c1 c2 c3 em : Int) (w : World) : Calls Try.prog 17 #[.agg #[.int .i64 c0, .int .i64 c1, .int .i64 c2, .int .i64 c3], .int .i64 em] w fun e w' => ∃ g h : Nat, e = .returned (.func (.func 21) #[] #[.pointer (some ⟨g, 0, none⟩), .pointer (some ⟨h, 0, none⟩)]) ∧
    w'.heap[g]? = some (.cells #[.int .i64 c0, .int .i64 c1, .int .i64 c2, .int .i64 c3] 23 (0, 0)) ∧ w'.heap[h]? = some (.cells #[.int .i64 em] 3 (0, 0)) ∧ w.heap.size ≤ g ∧ w.heap.size ≤ h ∧ Below w.heap.size w w' := by
  go_enter Try.func17, Try.ntmps17
  go_wp2
  go_ret
  have h1 := blk_alloc (blk_new w (.cells #[.int .i64 c0, .int .i64 c1, .int .i64 c2, .int .i64 c3] 23)) (.cells #[.int .i64 em] 3)
  have h2 := blk_new (w.alloc (.cells #[.int .i64 c0, .int .i64 c1, .int .i64 c2, .int .i64 c3] 23)) (.cells #[.int .i64 em] 3)
  simp only [World.size_alloc] at h2
  exact ⟨w.heap.size, w.heap.size + 1, rfl, h1, h2, Nat.le_refl _, Nat.le_succ _, below_alloc (below_alloc (Below.refl _ _) _) _⟩
attribute [local go_sem high] eqA27

/-- What stands in told's own boxes: the cell, em, how many; the result; how many have been gone over. -/
def told.Bk (B : Nat) (c0 c1 c2 c3 em most : Int) (r : Bool) (n : Int) (W : World) : Prop :=
  W.heap[B]? = some (.cells #[.int .i64 c0, .int .i64 c1, .int .i64 c2, .int .i64 c3] 23 (0, 0)) ∧ W.heap[B + 1]? = some (.cells #[.int .i64 em] 3 (0, 0)) ∧ W.heap[B + 2]? = some (.cells #[.int .i64 most] 3 (0, 0)) ∧
  W.heap[B + 3]? = some (.cells #[.bool r] 4 (0, 0)) ∧ W.heap[B + 4]? = some (.cells #[.int .i64 n] 3 (0, 0))
theorem told.Bk.grown {B : Nat} {c0 c1 c2 c3 em most : Int} {r : Bool} {n : Int} {W W' : World} {row : Option Nat} (h : told.Bk B c0 c1 c2 c3 em most r n W) (hg : W.grownBy W' row) (hne : ∀ k, row = some k → B + 4 < k) : told.Bk B c0 c1 c2 c3 em most r n W' :=
  have hn : ∀ j, j ≤ B + 4 → some j ≠ row := fun j hj e => by have := hne j e.symm; omega
  ⟨blk_grown h.1 hg (hn _ (by omega)), blk_grown h.2.1 hg (hn _ (by omega)), blk_grown h.2.2.1 hg (hn _ (by omega)), blk_grown h.2.2.2.1 hg (hn _ (by omega)), blk_grown h.2.2.2.2 hg (hn _ (by omega))⟩
theorem told.Bk.below {B : Nat} {c0 c1 c2 c3 em most : Int} {r : Bool} {n : Int} {W W' : World} (h : told.Bk B c0 c1 c2 c3 em most r n W) (hb : Below W.heap.size W W') : told.Bk B c0 c1 c2 c3 em most r n W' := h.grown (grown_of_below hb none) (fun k e => by cases e)

theorem told.Bk.far {B : Nat} {c0 c1 c2 c3 em most : Int} {r : Bool} {n : Int} {W : World} (h : told.Bk B c0 c1 c2 c3 em most r n W) (g j : Nat) (v : Value) (hg : B + 4 < g) : told.Bk B c0 c1 c2 c3 em most r n (W.setCell ⟨g, j, none⟩ v) :=
  ⟨blk_far h.1 (by simp; omega) v, blk_far h.2.1 (by simp; omega) v, blk_far h.2.2.1 (by simp; omega) v, blk_far h.2.2.2.1 (by simp; omega) v, blk_far h.2.2.2.2 (by simp; omega) v⟩
theorem told.Bk.count {B : Nat} {c0 c1 c2 c3 em most : Int} {r : Bool} {n : Int} {W : World} (h : told.Bk B c0 c1 c2 c3 em most r n W) (n' : Int) : told.Bk B c0 c1 c2 c3 em most r n' (W.setCell ⟨B + 4, 0, none⟩ (.int .i64 n')) :=
  ⟨blk_far h.1 (by simp) _, blk_far h.2.1 (by simp) _, blk_far h.2.2.1 (by simp) _, blk_far h.2.2.2.1 (by simp) _, blk_put h.2.2.2.2 0 _ rfl⟩
theorem told.Bk.res {B : Nat} {c0 c1 c2 c3 em most : Int} {r : Bool} {n : Int} {W : World} (h : told.Bk B c0 c1 c2 c3 em most r n W) (r' : Bool) : told.Bk B c0 c1 c2 c3 em most r' n (W.setCell ⟨B + 3, 0, none⟩ (.bool r')) :=
  ⟨blk_far h.1 (by simp) _, blk_far h.2.1 (by simp) _, blk_far h.2.2.1 (by simp) _, blk_put h.2.2.2.1 0 _ rfl, blk_far h.2.2.2.2 (by simp) _⟩
/-! ### What the functions answer -/
theorem told.may (c0 c1 c2 c3 : Int) : ∃ b, cell_May.f c0 c1 c2 c3 = some b ∧ pochoirref25_May.f c0 c1 c2 c3 = some b ∧ (b = true → 0 ≤ c2 ∧ c2 ≤ 256 ∧ 0 ≤ c3 ∧ c3 ≤ 256) := by
  unfold cell_May.f pochoirref25_May.f cell_within.f
  by_cases h0 : (c0 == 0 && (c1 == 0 && (c2 == 0 && (c3 == 0)))) = true
  · refine ⟨true, by rw [if_pos h0], by rw [if_pos h0], fun _ => ?_⟩
    simp at h0
    omega
  · rw [if_neg h0, if_neg h0]
    by_cases h1 : c2 ≥ 1
    · by_cases h2 : c2 ≤ 256
      · by_cases h3 : c3 ≥ 1
        · by_cases h4 : c3 ≤ 256
          · by_cases h5 : c0 ≥ -1048576
            · by_cases h6 : c0 ≤ 1048576
              · by_cases h7 : c1 ≥ -1048576
                · by_cases h8 : c1 ≤ 1048576 <;> simp [h1, h2, h3, h4, h5, h6, h7, h8] <;> omega
                · simp [h1, h2, h3, h4, h5, h6, h7]
              · simp [h1, h2, h3, h4, h5, h6]
            · simp [h1, h2, h3, h4, h5]
          · simp [h1, h2, h3, h4]
        · simp [h1, h2, h3]
      · simp [h1, h2]
    · simp [h1]
theorem told.em (em : Int) : ∃ b, cell_em.f em = some b ∧ pochoirref25_Em.f em = some b := by
  unfold cell_em.f cell_within.f pochoirref25_Em.f
  by_cases h1 : em ≥ 16 <;> simp [h1]
theorem told.plane (x y : Int) : ∃ b, plane_May.f x y = some b ∧ pochoirref18_May.f x y = some b := by
  unfold plane_May.f pochoirref18_May.f
  by_cases h1 : x ≥ -33554432
  · by_cases h2 : x ≤ 33554432
    · by_cases h3 : y ≥ -33554432 <;> simp [h1, h2, h3]
    · simp [h1, h2]
  · simp [h1]
theorem told.mid (c0 c1 c2 c3 em : Int) (k : Nat) (b : Bool) (hmay : cell_May.f c0 c1 c2 c3 = some true) (hem : cell_em.f em = some true) (hk : (k : Int) < c2 * c3) (h2 : 0 ≤ c2) (hp : plane_May.f (told.mx c0 c2 em k) (told.my c1 c2 em k) = some b) :
    pochoirref25_Middle.f 2 c0 c1 c2 c3 em ((k : Int) % c2) ((k : Int) / c2) = some (if b = true then (told.mx c0 c2 em k, told.my c1 c2 em k, 0) else (0, 0, 2)) := by
  obtain ⟨bm, e1, e2, _⟩ := told.may c0 c1 c2 c3
  obtain ⟨be, e3, e4⟩ := told.em em
  obtain ⟨bp, e5, e6⟩ := told.plane (told.mx c0 c2 em k) (told.my c1 c2 em k)
  rw [hmay] at e1
  rw [hem] at e3
  rw [hp] at e5
  obtain rfl := Option.some.inj e1
  obtain rfl := Option.some.inj e3
  obtain rfl := Option.some.inj e5
  have hc : 0 < c2 := by
    rcases Int.lt_or_le 0 c2 with h | h
    · exact h
    · obtain rfl : c2 = 0 := by omega
      rw [Int.zero_mul] at hk
      omega
  have i0 : 0 ≤ (k : Int) % c2 := Int.emod_nonneg _ (by omega)
  have i1 : (k : Int) % c2 < c2 := Int.emod_lt_of_pos _ hc
  have j0 : 0 ≤ (k : Int) / c2 := Int.ediv_nonneg (by omega) (by omega)
  have j1 : (k : Int) / c2 < c3 := Int.ediv_lt_of_lt_mul hc (by rw [Int.mul_comm]; exact hk)
  unfold told.mx told.my at e6
  unfold pochoirref25_Middle.f
  rw [e2, Option.bind_some, if_pos rfl, e4, Option.bind_some, if_pos rfl, if_neg (by omega), if_neg (by omega), if_neg (by omega), show decide ((k : Int) / c2 ≥ c3) = false from decide_eq_false (by omega)]
  simp only [pochoirref25_Middle.j0]
  rw [if_neg (by decide), e6, Option.bind_some]
  unfold told.mx told.my
  cases b <;> rfl
/-- How many texels come. -/
theorem told.many (p : Nat → Bool) : ∀ n : Nat, ∃ K, K ≤ n ∧ (∀ j, j < K → p j = true) ∧ (K = n ∨ p K = false)
  | 0 => ⟨0, Nat.le_refl _, fun j h => absurd h (Nat.not_lt_zero _), .inl rfl⟩
  | n + 1 => by
    obtain ⟨K, h1, h2, h3⟩ := told.many p n
    rcases h3 with rfl | h3
    · cases h : p K with
      | false => exact ⟨K, by omega, h2, .inr h⟩
      | true => exact ⟨K + 1, Nat.le_refl _, fun j hj => by
          rcases Nat.lt_succ_iff_lt_or_eq.1 hj with h' | rfl
          · exact h2 j h'
          · exact h, .inl rfl⟩
    · exact ⟨K, by omega, h2, .inr h3⟩
/-- What comes of a cell: nothing, or its first K texels, till one is too far away. -/
def told.Comes (c0 c1 c2 c3 em : Int) (K : Nat) : Prop :=
  ((pochoirref25_May.f c0 c1 c2 c3 = some false ∨ pochoirref25_May.f c0 c1 c2 c3 = some true ∧ pochoirref25_Em.f em = some false) ∧ K = 0) ∨
  (pochoirref25_May.f c0 c1 c2 c3 = some true ∧ pochoirref25_Em.f em = some true ∧ 0 ≤ c2 ∧ c2 ≤ 256 ∧ 0 ≤ c3 ∧ c3 ≤ 256 ∧ (K : Int) ≤ c2 * c3 ∧
    (∀ j, j < K → pochoirref25_Middle.f 2 c0 c1 c2 c3 em ((j : Int) % c2) ((j : Int) / c2) = some (told.mx c0 c2 em j, told.my c1 c2 em j, 0)) ∧
    ((K : Int) < c2 * c3 → pochoirref25_Middle.f 2 c0 c1 c2 c3 em ((K : Int) % c2) ((K : Int) / c2) = some (0, 0, 2)))
theorem told.seq (m : Nat) (hm : 1 ≤ m) (c0 c1 c2 c3 em : Int) : ∃ K, told.Comes c0 c1 c2 c3 em K ∧ ∀ (B1 B2 : Nat) (w : World), w.heap[B1]? = some (.cells #[.int .i64 c0, .int .i64 c1, .int .i64 c2, .int .i64 c3] 23 (0, 0)) → w.heap[B2]? = some (.cells #[.int .i64 em] 3 (0, 0)) →
    SeqStopsK Fence.wide m Try.prog 21 #[.pointer (some ⟨B1, 0, none⟩), .pointer (some ⟨B2, 0, none⟩)] (told.encs c0 c1 c2 em) (told.Kp B1 B2) (fun xs => xs = List.range K) (fun pre => ∃ k, k ≤ K ∧ pre = List.range k) K w := by
  obtain ⟨bm, e1, e2, hb⟩ := told.may c0 c1 c2 c3
  obtain ⟨be, e3, e4⟩ := told.em em
  cases bm with
  | false => exact ⟨0, .inl ⟨.inl e2, rfl⟩, fun B1 B2 w h1 h2 => told.no m hm c0 c1 c2 c3 em false e1 (fun h => by cases h) B1 B2 w h1 h2⟩
  | true =>
    cases be with
    | false => exact ⟨0, .inl ⟨.inr ⟨e2, e4⟩, rfl⟩, fun B1 B2 w h1 h2 => told.no m hm c0 c1 c2 c3 em true e1 (fun _ => e3) B1 B2 w h1 h2⟩
    | true =>
      obtain ⟨b1, b2, b3, b4⟩ := hb rfl
      have hnn : 0 ≤ c2 * c3 := Int.mul_nonneg b1 b3
      obtain ⟨n, hn⟩ : ∃ n : Nat, (n : Int) = c2 * c3 := ⟨(c2 * c3).toNat, by omega⟩
      obtain ⟨K, k1, k2, k3⟩ := told.many (fun j => (plane_May.f (told.mx c0 c2 em j) (told.my c1 c2 em j)) == some true) n
      have k2' : ∀ j, j < K → plane_May.f (told.mx c0 c2 em j) (told.my c1 c2 em j) = some true := fun j hj => by simpa using k2 j hj
      have k3' : K = n ∨ plane_May.f (told.mx c0 c2 em K) (told.my c1 c2 em K) = some false := by
        rcases k3 with h | h
        · exact .inl h
        · refine .inr ?_
          obtain ⟨b, hb, _⟩ := told.plane (told.mx c0 c2 em K) (told.my c1 c2 em K)
          rw [hb] at h ⊢
          cases b
          · rfl
          · simp at h
      refine ⟨K, .inr ⟨e2, e4, b1, b2, b3, b4, by omega, fun j hj => ?_, fun hj => ?_⟩, fun B1 B2 w h1 h2 => told.all m hm c0 c1 c2 c3 em K n hn b1 b2 b3 b4 e1 e3 k1 k2' k3' B1 B2 w h1 h2⟩
      · have := told.mid c0 c1 c2 c3 em j true e1 e3 (by omega) b1 (k2' j hj)
        simpa using this
      · have := told.mid c0 c1 c2 c3 em K false e1 e3 (by omega) b1 (by rcases k3' with h | h; omega; exact h)
        simpa using this

set_option maxRecDepth 100000 in
theorem told.finish (w W : World) (D : Nat) (tmps : Array Value) (ht : tmps[6]? = some (.pointer (some ⟨w.heap.size + 1 + 1 + 1, 0, none⟩))) (hK : W.heap[D]? = some (.deferred (some []))) (hres : W.heap[w.heap.size + 3]? = some (.cells #[.bool true] 4 (0, 0)))
    (hB : Below w.heap.size w W) (hD : w.heap.size ≤ D) :
    bodyPostM Fence.wide 9 Try.prog Try.f9 (fun e w' => e = Ending.returned (.bool true) ∧ Below w.heap.size w w') .ret { tmps, defers := [{ target := .collected D, args := #[] }] } W := by
  have hc : W.cell? ⟨w.heap.size + 1 + 1 + 1, 0, none⟩ = some (.bool true) := (blk_cell hres 0).trans rfl
  refine ⟨by simp, .inl ⟨_, _, rfl, run_takeDeferred hK, ?_⟩⟩
  have hc5 := _root_.Go.cell_kept hc (grownBy_putObj' _ D (.deferred none)) (fun r e => by cases e; exact ⟨_, hK, rfl⟩)
  refine ⟨.bool true, ?_, rfl, hB.grown (grownBy_putObj' W D _) hB.size (fun k e => by cases e; exact hD)⟩
  simp [results, Try.f9, go_sem, hc5, ht]
set_option maxRecDepth 100000 in
set_option maxHeartbeats 4000000 in
theorem told.main (c0 c1 c2 c3 em most : Int) (w : World) :
    Calls Try.prog 9 #[.agg #[.int .i64 c0, .int .i64 c1, .int .i64 c2, .int .i64 c3], .int .i64 em, .int .i64 most] w fun e w' => e = .returned (.bool true) ∧ Below w.heap.size w w' := by
  refine (callsIn_wide (n := 9)).1 (callsIn_of_wp_marks Try.func9 rfl trivial ?_ rfl)
  simp only [Try.ntmps9, List.size_toArray, List.length_cons, List.length_nil, Nat.reduceAdd, Nat.reduceSub, Array.replicate_succ, Array.replicate_zero, List.push_toArray, List.append_toArray, List.nil_append, List.cons_append]
  have t17 : Fence.wide.fn 17 := trivial
  gi_wp2_with (gi_at_call 17; refine (callsIn_wide.2 (told.maker c0 c1 c2 c3 em _)).mono ?_; rintro e w1 ⟨g, h, rfl, hg, hh, lg, lh, hb⟩)
  have hbk : told.Bk w.heap.size c0 c1 c2 c3 em most false 0 w1 := by
    refine told.Bk.below ?_ hb
    refine ⟨?_, ?_, ?_, ?_, ?_⟩
    · exact blk_alloc (blk_alloc (blk_alloc (blk_alloc (blk_new w _) _) _) _) _
    · have := blk_alloc (blk_alloc (blk_alloc (blk_new (w.alloc (.cells #[.int .i64 c0, .int .i64 c1, .int .i64 c2, .int .i64 c3] 23)) (.cells #[.int .i64 em] 3)) (.cells #[.int .i64 most] 3)) (.cells #[.bool false] 4)) (.cells #[.int .i64 0] 3)
      simpa only [World.size_alloc] using this
    · have := blk_alloc (blk_alloc (blk_new ((w.alloc (.cells #[.int .i64 c0, .int .i64 c1, .int .i64 c2, .int .i64 c3] 23)).alloc (.cells #[.int .i64 em] 3)) (.cells #[.int .i64 most] 3)) (.cells #[.bool false] 4)) (.cells #[.int .i64 0] 3)
      simpa only [World.size_alloc] using this
    · have := blk_alloc (blk_new (((w.alloc (.cells #[.int .i64 c0, .int .i64 c1, .int .i64 c2, .int .i64 c3] 23)).alloc (.cells #[.int .i64 em] 3)).alloc (.cells #[.int .i64 most] 3)) (.cells #[.bool false] 4)) (.cells #[.int .i64 0] 3)
      simpa only [World.size_alloc] using this
    · have := blk_new ((((w.alloc (.cells #[.int .i64 c0, .int .i64 c1, .int .i64 c2, .int .i64 c3] 23)).alloc (.cells #[.int .i64 em] 3)).alloc (.cells #[.int .i64 most] 3)).alloc (.cells #[.bool false] 4)) (.cells #[.int .i64 0] 3)
      simpa only [World.size_alloc] using this
  have hB : Below w.heap.size w w1 := below_then (by repeat (first | exact Below.refl _ _ | apply below_alloc)) (by simp; omega) hb
  simp only [World.size_alloc] at lg lh
  obtain ⟨K, HC, hseq⟩ := told.seq 8 (by omega) c0 c1 c2 c3 em
  have hs := hseq g h w1 hg hh
  have sg := blk_lt hg
  have sh := blk_lt hh
  clear hseq hb
  refine wpIn_rangeFunc_ownH rfl (by omega) (gf := 21) (lb := #[.pointer (some ⟨g, 0, none⟩), .pointer (some ⟨h, 0, none⟩)]) rfl trivial (enters_of Try.func21 (by kernel_rfl) rfl) hs
    (fun h1 h2 => ⟨Nat.le_trans h1.1 h2.1, h2.2.1.trans h1.2.1, h2.2.2.trans h1.2.2⟩)
    (fun W l o o' hl ho _ _ => ⟨by simp, World.putObj_heap_other (by omega), World.putObj_heap_other (by omega)⟩)
    (Below.refl _ _) (fun _ => rfl)
    (fun pre W => pre = List.range pre.length ∧ told.Bk w.heap.size c0 c1 c2 c3 em most false pre.length W ∧ Below w.heap.size w W ∧ W.heap[g]? = some (.cells #[.int .i64 c0, .int .i64 c1, .int .i64 c2, .int .i64 c3] 23 (0, 0)) ∧ W.heap[h]? = some (.cells #[.int .i64 em] 3 (0, 0)))
    (fun c pre W => c = .ret ∧ ∃ (b : Bool) (n : Int), told.Bk w.heap.size c0 c1 c2 c3 em most b n W ∧ (pre = List.range pre.length → b = true) ∧ Below w.heap.size w W)
    ?hI ?hIx ⟨rfl, hbk, hB, hg, hh⟩
    (fun x a' W => ∃ Bx, w.heap.size + 4 < Bx ∧ Bx ≠ g ∧ Bx ≠ h ∧ W.heap[Bx]? = some (.cells #[.int .i64 (told.mx c0 c2 em x), .int .i64 (told.my c1 c2 em x)] 27 (0, 0)) ∧
      a' = { tmps := #[.agg #[.int .i64 c0, .int .i64 c1, .int .i64 c2, .int .i64 c3], .int .i64 em, .int .i64 most, .pointer (some ⟨w.heap.size, 0, none⟩), .pointer (some ⟨w.heap.size + 1, 0, none⟩), .pointer (some ⟨w.heap.size + 1 + 1, 0, none⟩), .pointer (some ⟨w.heap.size + 1 + 1 + 1, 0, none⟩), .pointer (some ⟨w.heap.size + 1 + 1 + 1 + 1, 0, none⟩), .int .i64 x, .pointer (some ⟨Bx, 0, none⟩), undef, undef, undef, undef, .agg #[.int .i64 c0, .int .i64 c1, .int .i64 c2, .int .i64 c3], .int .i64 em, .func (.func 21) #[] #[.pointer (some ⟨g, 0, none⟩), .pointer (some ⟨h, 0, none⟩)], .int .i64 x, .agg #[.int .i64 (told.mx c0 c2 em x), .int .i64 (told.my c1 c2 em x)], undef, undef, undef, undef, undef, undef, undef, undef, undef, undef, undef, undef, undef, undef, undef, undef, undef, undef, undef, undef, undef, undef, undef, undef, undef, undef, undef, undef, undef, undef, undef, undef, undef, undef, undef, undef, undef, undef, undef, undef, undef, undef, undef, undef, undef, undef, undef, undef, undef, undef, undef, undef, undef, undef, undef, undef, undef, undef, undef, undef, undef, undef, undef, undef, undef, undef, undef, undef, undef, undef, undef, undef, undef, undef, undef, undef, undef, undef], defers := [] })
    ?hAx ?assign ?body ?done ?stop
  case hI =>
    rintro pre W W' row ⟨h1, h2, h3, h4, h5⟩ hg' hr
    exact ⟨h1, h2.grown hg' (fun k e => by have := (hr k e).1; omega), h3.grown hg' h3.size (fun k e => by have := (hr k e).1; have := hB.size; omega), blk_grown h4 hg' (fun e => by have := (hr g e.symm).1; omega), blk_grown h5 hg' (fun e => by have := (hr h e.symm).1; omega)⟩
  case hIx =>
    rintro c pre W W' row ⟨h1, b, n, h2, h4, h3⟩ hg' hr
    exact ⟨h1, b, n, h2.grown hg' (fun k e => by have := (hr k e).1; omega), h4, h3.grown hg' h3.size (fun k e => by have := (hr k e).1; have := hB.size; omega)⟩
  case hAx =>
    rintro x a' _ W W' row ⟨Bx, h1, h2, h3, h4, h5⟩ hg' hr
    exact ⟨Bx, h1, h2, h3, blk_grown h4 hg' (fun e => by obtain ⟨_, o, ho, hc⟩ := hr Bx e.symm; rw [h4] at ho; cases ho; cases hc), h5⟩
  case assign =>
    rintro l pre x W Kc ⟨i1, i2, i3, i4, i5⟩ hK
    unfold told.encs
    have n4 := blk_lt i2.2.2.2.2
    have n5 := blk_lt i4
    have n6 := blk_lt i5
    gi_wp2
    refine hK _ _ ((KeepsOthers.alloc _ _).from _) ⟨by simp, Below.heap_alloc _ _ _ n5, Below.heap_alloc _ _ _ n6⟩ ⟨i1, i2.below (below_alloc (Below.refl _ _) _), below_alloc i3 _, blk_alloc i4 _, blk_alloc i5 _⟩ ⟨W.heap.size, by omega, by omega, by omega, blk_new _ _, rfl⟩
  case body =>
    rintro l pre x a' W hl ⟨r, hr⟩ ⟨hpre, hbk2, hB2, hg2, hh2⟩ ⟨Bx, hBx, hng, hnh, bX, rfl⟩ hlt
    rcases HC with ⟨_, rfl⟩ | ⟨hok, hek, b1, b2, b3, b4, hKn, hall, _⟩
    · exact absurd hlt (Nat.not_lt_zero _)
    obtain ⟨k, hk⟩ : ∃ k, k = pre.length := ⟨_, rfl⟩
    rw [← hk] at hbk2 hlt
    have HPre := Aside0.mk hpre
    have HKP := Aside0.mk hk
    clear hpre hk
    have hkn : (k : Int) < c2 * c3 := by omega
    have b2p : 1 ≤ c2 := by
      rcases Int.lt_or_le 0 c2 with hc | hc
      · omega
      · obtain rfl : c2 = 0 := by omega
        rw [Int.zero_mul] at hkn
        omega
    have hk64 : (k : Int) ≤ 65536 := by
      have := Int.mul_le_mul b2 b4 b3 (by omega)
      omega
    have HM := Aside0.mk (hall k hlt)
    clear hall hKn hkn
    have lW := blk_lt hbk2.2.2.2.2
    have f0 : W.cell? ⟨w.heap.size + 1 + 1 + 1 + 1, 0, none⟩ = some (.int .i64 k) := (blk_cell hbk2.2.2.2.2 0).trans rfl
    have f2 : W.cell? ⟨w.heap.size, 2, none⟩ = some (.int .i64 c2) := (blk_cell hbk2.1 2).trans rfl
    have f3 : W.cell? ⟨w.heap.size + 1 + 1 + 1, 0, none⟩ = some (.bool false) := (blk_cell hbk2.2.2.2.1 0).trans rfl
    have f4 := blk_frozen hbk2.2.2.2.1 0
    by_cases hx : x = k
    · subst hx
      have q2 : wrap64 ((x : Int) / c2) = (x : Int) / c2 := by
        have h1 : 0 ≤ (x : Int) / c2 := Int.ediv_nonneg (by omega) (by omega)
        have h2 : (x : Int) / c2 ≤ x := Int.ediv_le_self _ (by omega)
        unfold wrap64
        omega
      have q3 : ¬ c2 = 0 := by omega
      have q1 : Int.tmod (x : Int) c2 = (x : Int) % c2 := Int.tmod_eq_emod_of_nonneg (by omega)
      gi_wp2
      obtain ⟨S, hS⟩ : ∃ S : World → Prop, S = fun w' => told.Bk w.heap.size c0 c1 c2 c3 em most false x w' ∧ w'.heap[Bx]? = some (.cells #[.int .i64 (told.mx c0 c2 em x), .int .i64 (told.my c1 c2 em x)] 27 (0, 0)) ∧ Below W.heap.size W w' := ⟨_, rfl⟩
      have HS := Aside0.mk hS
      have hS0 : S W.drew := by rw [hS]; exact ⟨hbk2, bX, below_drew1 (Below.refl _ _)⟩
      have hSb : ∀ A B, S A → Below A.heap.size A B → S B := by rw [hS]; exact fun A B h k => ⟨h.1.below k, blk_below h.2.1 k, below_step h.2.2 k⟩
      have lBx := blk_lt bX
      have hSs : ∀ (A : World) (g j : Nat) (v : Value) (cs : Array Value), S A → W.heap.size ≤ g → A.heap[g]? = some (.cells cs 27 (0, 0)) → S (A.setCell ⟨g, j, none⟩ v) := by
        rw [hS]
        exact fun A g j v cs h hge hb => ⟨h.1.far g j v (by omega), blk_far h.2.1 (by simp; omega) v, below_set h.2.2 hge⟩
      have hSz : ∀ A, S A → W.heap.size ≤ A.heap.size := by rw [hS]; exact fun A h => h.2.2.size
      obtain ⟨wb, hwb⟩ : ∃ wb, wb = W := ⟨_, rfl⟩
      rw [← hwb] at hSs hSz
      have HWB := Aside0.mk hwb
      clear hS hwb f0 f2 f3 f4
      refine Aid.startR_ (n := 17) (S := S) (ds := []) #[false, false, false, false, false, false, false, false, false, false, false, false, false, false, false, false, false] (fun ⟨_, _, h⟩ => h) (by kernel_rfl) (by kernel_rfl) rfl rfl hS0 (fun hHeld => ?_)
      generalize W.drew = wd at hHeld ⊢
      refine pure_ (i := 3) (N := some 31) (v := ?_) (a' := ?_) #[false, false, false, true, false, false, false, false, false, false, false, false, false, false, false, false, false] rfl rfl (by kernel_rfl) (fun _ _ _ h => h) (Or.inl ⟨by rfl, ?_⟩) ?_ ?_
      rotate_left
      · intro w'
        go_simp
        with_reducible rfl
      rotate_left
      · simp only [Act.put, List.setIfInBounds_toArray, List.set_cons_zero, List.set_cons_succ, i64_w, i32_w]
        rfl
      refine pure_ (i := 7) (N := some 35) (v := ?_) (a' := ?_) #[false, false, false, true, false, false, false, true, false, false, false, false, false, false, false, false, false] rfl rfl (by kernel_rfl) (fun _ _ _ h => h) (Or.inl ⟨by rfl, ?_⟩) ?_ ?_
      rotate_left
      · intro w'
        go_simp
        with_reducible rfl
      rotate_left
      · simp only [Act.put, List.setIfInBounds_toArray, List.set_cons_zero, List.set_cons_succ, i64_w, i32_w]
        rfl
      refine take_ (i := 0) (N := some 28) (v := ?_) (a' := ?_) #[true, false, false, true, false, false, false, true, false, false, false, false, false, false, false, false, false] rfl rfl (by kernel_rfl) (fun _ _ _ h => h) (Or.inl ⟨by rfl, ?_⟩) hHeld ?_ ?_
      rotate_left
      · intro w' s_
        rw [HS.out] at s_
        obtain ⟨⟨s1, s2, s3, s4, s5⟩, _⟩ := s_
        have a0 : w'.cell? ⟨w.heap.size, 0, none⟩ = some (.int .i64 c0) := (blk_cell s1 0).trans rfl
        have a1 : w'.cell? ⟨w.heap.size, 1, none⟩ = some (.int .i64 c1) := (blk_cell s1 1).trans rfl
        have a2 : w'.cell? ⟨w.heap.size, 2, none⟩ = some (.int .i64 c2) := (blk_cell s1 2).trans rfl
        have a3 : w'.cell? ⟨w.heap.size, 3, none⟩ = some (.int .i64 c3) := (blk_cell s1 3).trans rfl
        have a4 : w'.cell? ⟨w.heap.size + 1, 0, none⟩ = some (.int .i64 em) := (blk_cell s2 0).trans rfl
        have a5 : w'.cell? ⟨w.heap.size + 1 + 1 + 1 + 1, 0, none⟩ = some (.int .i64 (x : Int)) := (blk_cell s5 0).trans rfl
        go_simp
        with_reducible rfl
      rotate_left
      · simp only [Act.put, List.setIfInBounds_toArray, List.set_cons_zero, List.set_cons_succ, i64_w, i32_w]
        rfl
      refine take_ (i := 1) (N := some 29) (v := ?_) (a' := ?_) #[true, true, false, true, false, false, false, true, false, false, false, false, false, false, false, false, false] rfl rfl (by kernel_rfl) (fun _ _ _ h => h) (Or.inl ⟨by rfl, ?_⟩) hHeld ?_ ?_
      rotate_left
      · intro w' s_
        rw [HS.out] at s_
        obtain ⟨⟨s1, s2, s3, s4, s5⟩, _⟩ := s_
        have a0 : w'.cell? ⟨w.heap.size, 0, none⟩ = some (.int .i64 c0) := (blk_cell s1 0).trans rfl
        have a1 : w'.cell? ⟨w.heap.size, 1, none⟩ = some (.int .i64 c1) := (blk_cell s1 1).trans rfl
        have a2 : w'.cell? ⟨w.heap.size, 2, none⟩ = some (.int .i64 c2) := (blk_cell s1 2).trans rfl
        have a3 : w'.cell? ⟨w.heap.size, 3, none⟩ = some (.int .i64 c3) := (blk_cell s1 3).trans rfl
        have a4 : w'.cell? ⟨w.heap.size + 1, 0, none⟩ = some (.int .i64 em) := (blk_cell s2 0).trans rfl
        have a5 : w'.cell? ⟨w.heap.size + 1 + 1 + 1 + 1, 0, none⟩ = some (.int .i64 (x : Int)) := (blk_cell s5 0).trans rfl
        go_simp
        with_reducible rfl
      rotate_left
      · simp only [Act.put, List.setIfInBounds_toArray, List.set_cons_zero, List.set_cons_succ, i64_w, i32_w]
        rfl
      refine take_ (i := 2) (N := some 30) (v := ?_) (a' := ?_) #[true, true, true, true, false, false, false, true, false, false, false, false, false, false, false, false, false] rfl rfl (by kernel_rfl) (fun _ _ _ h => h) (Or.inl ⟨by rfl, ?_⟩) hHeld ?_ ?_
      rotate_left
      · intro w' s_
        rw [HS.out] at s_
        obtain ⟨⟨s1, s2, s3, s4, s5⟩, _⟩ := s_
        have a0 : w'.cell? ⟨w.heap.size, 0, none⟩ = some (.int .i64 c0) := (blk_cell s1 0).trans rfl
        have a1 : w'.cell? ⟨w.heap.size, 1, none⟩ = some (.int .i64 c1) := (blk_cell s1 1).trans rfl
        have a2 : w'.cell? ⟨w.heap.size, 2, none⟩ = some (.int .i64 c2) := (blk_cell s1 2).trans rfl
        have a3 : w'.cell? ⟨w.heap.size, 3, none⟩ = some (.int .i64 c3) := (blk_cell s1 3).trans rfl
        have a4 : w'.cell? ⟨w.heap.size + 1, 0, none⟩ = some (.int .i64 em) := (blk_cell s2 0).trans rfl
        have a5 : w'.cell? ⟨w.heap.size + 1 + 1 + 1 + 1, 0, none⟩ = some (.int .i64 (x : Int)) := (blk_cell s5 0).trans rfl
        go_simp
        with_reducible rfl
      rotate_left
      · simp only [Act.put, List.setIfInBounds_toArray, List.set_cons_zero, List.set_cons_succ, i64_w, i32_w]
        rfl
      refine take_ (i := 4) (N := some 32) (v := ?_) (a' := ?_) #[true, true, true, true, true, false, false, true, false, false, false, false, false, false, false, false, false] rfl rfl (by kernel_rfl) (fun _ _ _ h => h) (Or.inl ⟨by rfl, ?_⟩) hHeld ?_ ?_
      rotate_left
      · intro w' s_
        rw [HS.out] at s_
        obtain ⟨⟨s1, s2, s3, s4, s5⟩, _⟩ := s_
        have a0 : w'.cell? ⟨w.heap.size, 0, none⟩ = some (.int .i64 c0) := (blk_cell s1 0).trans rfl
        have a1 : w'.cell? ⟨w.heap.size, 1, none⟩ = some (.int .i64 c1) := (blk_cell s1 1).trans rfl
        have a2 : w'.cell? ⟨w.heap.size, 2, none⟩ = some (.int .i64 c2) := (blk_cell s1 2).trans rfl
        have a3 : w'.cell? ⟨w.heap.size, 3, none⟩ = some (.int .i64 c3) := (blk_cell s1 3).trans rfl
        have a4 : w'.cell? ⟨w.heap.size + 1, 0, none⟩ = some (.int .i64 em) := (blk_cell s2 0).trans rfl
        have a5 : w'.cell? ⟨w.heap.size + 1 + 1 + 1 + 1, 0, none⟩ = some (.int .i64 (x : Int)) := (blk_cell s5 0).trans rfl
        go_simp
        with_reducible rfl
      rotate_left
      · simp only [Act.put, List.setIfInBounds_toArray, List.set_cons_zero, List.set_cons_succ, i64_w, i32_w]
        rfl
      refine take_ (i := 6) (N := some 34) (v := ?_) (a' := ?_) #[true, true, true, true, true, false, true, true, false, false, false, false, false, false, false, false, false] rfl rfl (by kernel_rfl) (fun _ _ _ h => h) (Or.inl ⟨by rfl, ?_⟩) hHeld ?_ ?_
      rotate_left
      · intro w' s_
        rw [HS.out] at s_
        obtain ⟨⟨s1, s2, s3, s4, s5⟩, _⟩ := s_
        have a0 : w'.cell? ⟨w.heap.size, 0, none⟩ = some (.int .i64 c0) := (blk_cell s1 0).trans rfl
        have a1 : w'.cell? ⟨w.heap.size, 1, none⟩ = some (.int .i64 c1) := (blk_cell s1 1).trans rfl
        have a2 : w'.cell? ⟨w.heap.size, 2, none⟩ = some (.int .i64 c2) := (blk_cell s1 2).trans rfl
        have a3 : w'.cell? ⟨w.heap.size, 3, none⟩ = some (.int .i64 c3) := (blk_cell s1 3).trans rfl
        have a4 : w'.cell? ⟨w.heap.size + 1, 0, none⟩ = some (.int .i64 em) := (blk_cell s2 0).trans rfl
        have a5 : w'.cell? ⟨w.heap.size + 1 + 1 + 1 + 1, 0, none⟩ = some (.int .i64 (x : Int)) := (blk_cell s5 0).trans rfl
        go_simp
        with_reducible rfl
      rotate_left
      · simp only [Act.put, List.setIfInBounds_toArray, List.set_cons_zero, List.set_cons_succ, i64_w, i32_w]
        rfl
      refine take_ (i := 8) (N := some 36) (v := ?_) (a' := ?_) #[true, true, true, true, true, false, true, true, true, false, false, false, false, false, false, false, false] rfl rfl (by kernel_rfl) (fun _ _ _ h => h) (Or.inl ⟨by rfl, ?_⟩) hHeld ?_ ?_
      rotate_left
      · intro w' s_
        rw [HS.out] at s_
        obtain ⟨⟨s1, s2, s3, s4, s5⟩, _⟩ := s_
        have a0 : w'.cell? ⟨w.heap.size, 0, none⟩ = some (.int .i64 c0) := (blk_cell s1 0).trans rfl
        have a1 : w'.cell? ⟨w.heap.size, 1, none⟩ = some (.int .i64 c1) := (blk_cell s1 1).trans rfl
        have a2 : w'.cell? ⟨w.heap.size, 2, none⟩ = some (.int .i64 c2) := (blk_cell s1 2).trans rfl
        have a3 : w'.cell? ⟨w.heap.size, 3, none⟩ = some (.int .i64 c3) := (blk_cell s1 3).trans rfl
        have a4 : w'.cell? ⟨w.heap.size + 1, 0, none⟩ = some (.int .i64 em) := (blk_cell s2 0).trans rfl
        have a5 : w'.cell? ⟨w.heap.size + 1 + 1 + 1 + 1, 0, none⟩ = some (.int .i64 (x : Int)) := (blk_cell s5 0).trans rfl
        go_simp
        with_reducible rfl
      rotate_left
      · simp only [Act.put, List.setIfInBounds_toArray, List.set_cons_zero, List.set_cons_succ, i64_w, i32_w]
        rfl
      refine pure_ (i := 5) (N := some 33) (v := ?_) (a' := ?_) #[true, true, true, true, true, true, true, true, true, false, false, false, false, false, false, false, false] rfl rfl (by kernel_rfl) (fun _ _ _ h => h) (Or.inl ⟨by rfl, ?_⟩) ?_ ?_
      rotate_left
      · intro w'
        go_simp
        with_reducible rfl
      rotate_left
      · simp only [Act.put, List.setIfInBounds_toArray, List.set_cons_zero, List.set_cons_succ, i64_w, i32_w]
        rfl
      refine pure_ (i := 9) (N := some 37) (v := ?_) (a' := ?_) #[true, true, true, true, true, true, true, true, true, true, false, false, false, false, false, false, false] rfl rfl (by kernel_rfl) (fun _ _ _ h => h) (Or.inl ⟨by rfl, ?_⟩) ?_ ?_
      rotate_left
      · intro w'
        go_simp
        with_reducible rfl
      rotate_left
      · simp only [Act.put, List.setIfInBounds_toArray, List.set_cons_zero, List.set_cons_succ, i64_w, i32_w, q2]
        rfl
      refine join_ (σ := Nat) 2 #[true, true, true, true, true, true, true, true, true, true, true, true, true, true, true, false, false] (fun s_ => [(38, .tuple #[.agg #[.int .i64 (told.mx c0 c2 em x), .int .i64 (told.my c1 c2 em x)], .int .i64 (0)]), (10, .pointer (some ⟨s_, 0, none⟩)), (27, .tuple #[.agg #[.int .i64 (told.mx c0 c2 em x), .int .i64 (told.my c1 c2 em x)], .int .i64 (0)]), (39, .agg #[.int .i64 (told.mx c0 c2 em x), .int .i64 (told.my c1 c2 em x)]), (40, .int .i64 (0))]) (fun s_ w' => S w' ∧ w'.heap[s_]? = some (.cells #[.int .i64 0, .int .i64 0] 27 (0, 0)) ∧ wb.heap.size ≤ s_) ?_ ?_
      rotate_left
      · intro hCont
        refine two_ (i := 10) (j := 14) (Ni := some 38) (Nj := some 10) #[true, true, true, true, true, true, true, true, true, true, true, false, false, false, false, false, false] #[true, true, true, true, true, true, true, true, true, true, false, false, false, false, true, false, false] rfl rfl rfl rfl (by kernel_rfl) (by decide) (by decide) (fun Kc hKc => ?_) (fun Kc hKc => ?_)
        · skip
          refine goes_ Try.func6 (by kernel_rfl) rfl #[.agg #[.int .i64 c0, .int .i64 c1, .int .i64 c2, .int .i64 c3], .int .i64 em, .int .i64 ((x : Int) % c2), .int .i64 ((x : Int) / c2)] (by rfl) rfl rfl (by (try simp only [List.map_toArray, List.map_cons, List.map_nil]); first | done | rfl) ?_
          with_reducible refine (pochoirref25_Middle.calls 2 c0 c1 c2 c3 em _ _ _ _ _ _ HM.out).mono ?_
          rintro e w' ⟨rfl, hq⟩
          refine ⟨_, rfl, ?_⟩
          refine hKc.out _ _ (hSb _ _ hHeld hq) (fun hHeld => ?_)
          clear hKc Kc
          refine norm_ (a' := ?_) ?_ ?_
          rotate_left
          · show Act.put _ (some 38) _ = _
            simp only [Act.put, List.setIfInBounds_toArray, List.set_cons_zero, List.set_cons_succ, i64_w, i32_w]
            rfl
          refine pure_ (i := 11) (N := some 27) (v := ?_) (a' := ?_) #[true, true, true, true, true, true, true, true, true, true, true, true, false, false, false, false, false] rfl rfl (by kernel_rfl) (fun _ _ _ h => h) (Or.inl ⟨by rfl, ?_⟩) ?_ ?_
          rotate_left
          · intro w'
            go_simp
            with_reducible rfl
          rotate_left
          · simp only [Act.put, List.setIfInBounds_toArray, List.set_cons_zero, List.set_cons_succ, i64_w, i32_w]
            rfl
          refine pure_ (i := 12) (N := some 39) (v := ?_) (a' := ?_) #[true, true, true, true, true, true, true, true, true, true, true, true, true, false, false, false, false] rfl rfl (by kernel_rfl) (fun _ _ _ h => h) (Or.inl ⟨by rfl, ?_⟩) ?_ ?_
          rotate_left
          · intro w'
            go_simp
            with_reducible rfl
          rotate_left
          · simp only [Act.put, List.setIfInBounds_toArray, List.set_cons_zero, List.set_cons_succ, i64_w, i32_w]
            rfl
          refine pure_ (i := 13) (N := some 40) (v := ?_) (a' := ?_) #[true, true, true, true, true, true, true, true, true, true, true, true, true, true, false, false, false] rfl rfl (by kernel_rfl) (fun _ _ _ h => h) (Or.inl ⟨by rfl, ?_⟩) ?_ ?_
          rotate_left
          · intro w'
            go_simp
            with_reducible rfl
          rotate_left
          · simp only [Act.put, List.setIfInBounds_toArray, List.set_cons_zero, List.set_cons_succ, i64_w, i32_w]
            rfl
          refine one_ (i := 14) (N := some 10) #[true, true, true, true, true, true, true, true, true, true, true, true, true, true, true, false, false] rfl rfl (by kernel_rfl) (by decide) (fun Kc hKc => ?_)
          refine box_step ?hg (N := 10) ?hd (cs := #[.int .i64 0, .int .i64 0]) (t := 27) ?hr ?_; (case hd => rfl); (case hg => rfl); (case hr => first | (go_simp; done) | (go_simp; rfl))
          intro g_ hg w3 hbox hb
          have hge : wb.heap.size ≤ g_ := by rw [hg]; exact hSz _ hHeld
          refine hKc.out _ _ (hSb _ _ hHeld hb) (fun hHeld => ?_)
          clear hKc Kc
          refine norm_ (a' := ?_) ?_ ?_
          rotate_left
          · show Act.put _ (some 10) _ = _
            simp only [Act.put, List.setIfInBounds_toArray, List.set_cons_zero, List.set_cons_succ, i64_w, i32_w]
            rfl
          exact norm_ (by first | (simp only [putAll, Act.put, List.setIfInBounds_toArray, List.set_cons_zero, List.set_cons_succ]; done) | (simp only [putAll, Act.put, List.setIfInBounds_toArray, List.set_cons_zero, List.set_cons_succ]; rfl)) (hCont g_ _ ⟨hHeld, hbox, hge⟩)
        · skip
          refine box_step ?hg (N := 10) ?hd (cs := #[.int .i64 0, .int .i64 0]) (t := 27) ?hr ?_; (case hd => rfl); (case hg => rfl); (case hr => first | (go_simp; done) | (go_simp; rfl))
          intro g_ hg w3 hbox hb
          have hge : wb.heap.size ≤ g_ := by rw [hg]; exact hSz _ hHeld
          refine hKc.out _ _ (hSb _ _ hHeld hb) (fun hHeld => ?_)
          clear hKc Kc
          refine norm_ (a' := ?_) ?_ ?_
          rotate_left
          · show Act.put _ (some 10) _ = _
            simp only [Act.put, List.setIfInBounds_toArray, List.set_cons_zero, List.set_cons_succ, i64_w, i32_w]
            rfl
          refine one_ (i := 10) (N := some 38) #[true, true, true, true, true, true, true, true, true, true, true, false, false, false, true, false, false] rfl rfl (by kernel_rfl) (by decide) (fun Kc hKc => ?_)
          refine goes_ Try.func6 (by kernel_rfl) rfl #[.agg #[.int .i64 c0, .int .i64 c1, .int .i64 c2, .int .i64 c3], .int .i64 em, .int .i64 ((x : Int) % c2), .int .i64 ((x : Int) / c2)] (by rfl) rfl rfl (by (try simp only [List.map_toArray, List.map_cons, List.map_nil]); first | done | rfl) ?_
          with_reducible refine (pochoirref25_Middle.calls 2 c0 c1 c2 c3 em _ _ _ _ _ _ HM.out).mono ?_
          rintro e w' ⟨rfl, hq⟩
          refine ⟨_, rfl, ?_⟩
          refine hKc.out _ _ (hSb _ _ hHeld hq) (fun hHeld => ?_)
          clear hKc Kc
          refine norm_ (a' := ?_) ?_ ?_
          rotate_left
          · show Act.put _ (some 38) _ = _
            simp only [Act.put, List.setIfInBounds_toArray, List.set_cons_zero, List.set_cons_succ, i64_w, i32_w]
            rfl
          refine pure_ (i := 11) (N := some 27) (v := ?_) (a' := ?_) #[true, true, true, true, true, true, true, true, true, true, true, true, false, false, true, false, false] rfl rfl (by kernel_rfl) (fun _ _ _ h => h) (Or.inl ⟨by rfl, ?_⟩) ?_ ?_
          rotate_left
          · intro w'
            go_simp
            with_reducible rfl
          rotate_left
          · simp only [Act.put, List.setIfInBounds_toArray, List.set_cons_zero, List.set_cons_succ, i64_w, i32_w]
            rfl
          refine pure_ (i := 12) (N := some 39) (v := ?_) (a' := ?_) #[true, true, true, true, true, true, true, true, true, true, true, true, true, false, true, false, false] rfl rfl (by kernel_rfl) (fun _ _ _ h => h) (Or.inl ⟨by rfl, ?_⟩) ?_ ?_
          rotate_left
          · intro w'
            go_simp
            with_reducible rfl
          rotate_left
          · simp only [Act.put, List.setIfInBounds_toArray, List.set_cons_zero, List.set_cons_succ, i64_w, i32_w]
            rfl
          refine pure_ (i := 13) (N := some 40) (v := ?_) (a' := ?_) #[true, true, true, true, true, true, true, true, true, true, true, true, true, true, true, false, false] rfl rfl (by kernel_rfl) (fun _ _ _ h => h) (Or.inl ⟨by rfl, ?_⟩) ?_ ?_
          rotate_left
          · intro w'
            go_simp
            with_reducible rfl
          rotate_left
          · simp only [Act.put, List.setIfInBounds_toArray, List.set_cons_zero, List.set_cons_succ, i64_w, i32_w]
            rfl
          exact norm_ (by first | (simp only [putAll, Act.put, List.setIfInBounds_toArray, List.set_cons_zero, List.set_cons_succ]; done) | (simp only [putAll, Act.put, List.setIfInBounds_toArray, List.set_cons_zero, List.set_cons_succ]; rfl)) (hCont g_ _ ⟨hHeld, blk_below hbox hq, hge⟩)
      rintro g_ w4 ⟨hHeld, hbox, hge⟩
      refine norm_ (a' := ?_) ?_ ?_
      rotate_left
      · simp only [putAll, Act.put, List.setIfInBounds_toArray, List.set_cons_zero, List.set_cons_succ]
        rfl
      refine one_ (i := 15) (N := none) #[true, true, true, true, true, true, true, true, true, true, true, true, true, true, true, true, false] rfl rfl (by kernel_rfl) (by decide) (fun Kc hKc => ?_)
      have hc0 : w4.cell? ⟨g_, 0, none⟩ = some (.int .i64 0) := (blk_cell hbox 0).trans rfl
      have hc1 : w4.cell? ⟨g_, 1, none⟩ = some (.int .i64 0) := (blk_cell hbox 1).trans rfl
      have hf0 := blk_frozen hbox 0
      have hf1 := blk_frozen hbox 1
      refine skip_ (w1 := ?_) (by rfl) rfl ?_ ?_
      rotate_left
      · go_simp
        rfl
      have hbox2 := blk_put (blk_put hbox 0 (.int .i64 (told.mx c0 c2 em x)) rfl) 1 (.int .i64 (told.my c1 c2 em x)) rfl
      refine hKc.out _ _ (hSs _ _ _ _ _ (hSs _ _ _ _ _ hHeld hge hbox) hge (blk_put hbox 0 (.int .i64 (told.mx c0 c2 em x)) rfl)) (fun hHeld => ?_)
      clear hKc Kc hc0 hc1 hf0 hf1
      refine pure_ (i := 16) (N := some 11) (v := ?_) (a' := ?_) #[true, true, true, true, true, true, true, true, true, true, true, true, true, true, true, true, true] rfl rfl (by kernel_rfl) (fun _ _ _ h => h) (Or.inl ⟨by rfl, ?_⟩) ?_ ?_
      rotate_left
      · intro w'
        go_simp
        with_reducible rfl
      rotate_left
      · simp only [Act.put, List.setIfInBounds_toArray, List.set_cons_zero, List.set_cons_succ, i64_w, i32_w]
        rfl
      refine done_ (by kernel_rfl) ?_
      clear hbox
      generalize (w4.setCell { block := g_, off := 0 } (Value.int IntKind.i64 (told.mx c0 c2 em x))).setCell { block := g_, off := 1 } (Value.int IntKind.i64 (told.my c1 c2 em x)) = w5 at hHeld hbox2 ⊢
      obtain rfl := HWB.out
      have HH := HS.out ▸ hHeld
      obtain ⟨z1, z2, z3⟩ := HH
      clear hHeld hS0 hSb hSs hSz HS HWB q2 q3 q1 HM
      have e0 : w5.cell? ⟨Bx, 0, none⟩ = some (.int .i64 (told.mx c0 c2 em x)) := (blk_cell z2 0).trans rfl
      have e1 : w5.cell? ⟨Bx, 1, none⟩ = some (.int .i64 (told.my c1 c2 em x)) := (blk_cell z2 1).trans rfl
      have e2 : w5.cell? ⟨g_, 0, none⟩ = some (.int .i64 (told.mx c0 c2 em x)) := (blk_cell hbox2 0).trans rfl
      have e3 : w5.cell? ⟨g_, 1, none⟩ = some (.int .i64 (told.my c1 c2 em x)) := (blk_cell hbox2 1).trans rfl
      have e4 : w5.cell? ⟨w.heap.size + 1 + 1 + 1 + 1, 0, none⟩ = some (.int .i64 x) := (blk_cell z1.2.2.2.2 0).trans rfl
      have e5 : w5.cell? ⟨w.heap.size + 1 + 1, 0, none⟩ = some (.int .i64 most) := (blk_cell z1.2.2.1 0).trans rfl
      have e6 : w5.cell? ⟨w.heap.size + 1 + 1 + 1, 0, none⟩ = some (.bool false) := (blk_cell z1.2.2.2.1 0).trans rfl
      have e7 := blk_frozen z1.2.2.2.2 0
      have e8 := blk_frozen z1.2.2.2.1 0
      have hln : (pre ++ [x]).length = x + 1 := by simp [← HKP.out]
      have hrg : pre ++ [x] = List.range (pre ++ [x]).length := by
        rw [hln, List.range_succ, HKP.out]
        exact congrArg (· ++ [pre.length]) HPre.out
      have HLN := Aside0.mk hln
      have HRG := Aside0.mk hrg
      have HKF : KeepsFrom w1.heap.size wb w5 := KeepsFrom.of_grownBy (grown_of_below z3 none) (fun j e => by cases e)
      have lg1 := blk_lt hg2
      have lh1 := blk_lt hh2
      clear hln hrg
      gi_wp2
      · refine ⟨(HKF.trans ((KeepsOthers.setCell _ _ _).from _)).trans ((KeepsOthers.setCell _ _ _).from _), rfl, true, _, (z1.count _).res _, fun _ => rfl, below_set (below_set (below_step hB2 z3) (by omega)) (by omega)⟩
      · refine ⟨HKF.trans ((KeepsOthers.setCell _ _ _).from _), ⟨Nat.le_trans z3.size (by simp [World.setCell]), (Below.heap_setCell _ _ _ _ (by simp; omega)).trans (z3.block _ lg1), (Below.heap_setCell _ _ _ _ (by simp; omega)).trans (z3.block _ lh1)⟩, HRG.out, ?_, below_set (below_step hB2 z3) (by omega), blk_far (blk_below hg2 z3) (by simp; omega) _, blk_far (blk_below hh2 z3) (by simp; omega) _⟩
        rw [HLN.out]
        exact z1.count _
    · have hx2 : ((x : Int) != (k : Int)) = true := by
        have : ¬ (x : Int) = (k : Int) := by omega
        simpa using this
      gi_wp2
      refine ⟨(KeepsOthers.setCell _ _ _).from _, rfl, false, _, hbk2.res _, fun he => absurd he ?_, below_set hB2 (by omega)⟩
      intro he
      have hl := congrArg List.getLast? he
      rw [List.length_append, List.length_singleton, List.range_succ] at hl
      simp at hl
      exact hx (by rw [HKP.out]; exact hl)
  case done =>
    rintro D xs W hD rfl ⟨i1, i2, i3, i4, i5⟩ hK
    rw [List.length_range] at i2
    have t8 : Fence.wide.fn 8 := trivial
    have t15 : Fence.wide.fn 15 := trivial
    have a0 : W.cell? ⟨w.heap.size, 0, none⟩ = some (.int .i64 c0) := (blk_cell i2.1 0).trans rfl
    have a1 : W.cell? ⟨w.heap.size, 1, none⟩ = some (.int .i64 c1) := (blk_cell i2.1 1).trans rfl
    have a2 : W.cell? ⟨w.heap.size, 2, none⟩ = some (.int .i64 c2) := (blk_cell i2.1 2).trans rfl
    have a3 : W.cell? ⟨w.heap.size, 3, none⟩ = some (.int .i64 c3) := (blk_cell i2.1 3).trans rfl
    rcases HC with ⟨hno | ⟨hno, hne⟩, rfl⟩ | ⟨hok, hek, b1, b2, b3, b4, hKn, hall, hend⟩
    · gi_wp2_with (gi_at_call 8; refine (callsIn_wide.2 (pochoirref25_May.calls c0 c1 c2 c3 false _ hno)).mono ?_; rintro e w2 ⟨rfl, hq⟩; have e5 : w2.cell? ⟨w.heap.size + 1 + 1 + 1 + 1, 0, none⟩ = some (.int .i64 0) := (blk_cell (blk_below i2.2.2.2.2 hq) 0).trans rfl; have e6 : w2.cell? ⟨w.heap.size + 1 + 1 + 1, 0, none⟩ = some (.bool false) := (blk_cell (blk_below i2.2.2.2.1 hq) 0).trans rfl; have e7 := blk_frozen (blk_below i2.2.2.2.1 hq) 0)
      refine told.finish w _ D _ rfl ((Below.heap_setCell _ _ _ _ (by simp; omega)).trans ((hq.block D (Array.getElem?_eq_some_iff.1 hK).1).trans hK)) (blk_put (blk_below i2.2.2.2.1 hq) 0 _ rfl) (below_set (below_step i3 hq) (by omega)) (by have := hB.size; omega)
    · gi_wp2_with (first | (gi_at_call 8; refine (callsIn_wide.2 (pochoirref25_May.calls c0 c1 c2 c3 true _ hno)).mono ?_; rintro e w2 ⟨rfl, hq⟩; have e4 : w2.cell? ⟨w.heap.size + 1, 0, none⟩ = some (.int .i64 em) := (blk_cell (blk_below i2.2.1 hq) 0).trans rfl) | (gi_at_call 15; refine (callsIn_wide.2 (pochoirref25_Em.calls em false _ hne)).mono ?_; rintro e w3 ⟨rfl, hq2⟩; have hq3 := below_step hq (Drawn0.below hq2); have e5 : w3.cell? ⟨w.heap.size + 1 + 1 + 1 + 1, 0, none⟩ = some (.int .i64 0) := (blk_cell (blk_below i2.2.2.2.2 hq3) 0).trans rfl; have e6 : w3.cell? ⟨w.heap.size + 1 + 1 + 1, 0, none⟩ = some (.bool false) := (blk_cell (blk_below i2.2.2.2.1 hq3) 0).trans rfl; have e7 := blk_frozen (blk_below i2.2.2.2.1 hq3) 0))
      refine told.finish w _ D _ rfl ((Below.heap_setCell _ _ _ _ (by simp; omega)).trans ((hq3.block D (Array.getElem?_eq_some_iff.1 hK).1).trans hK)) (blk_put (blk_below i2.2.2.2.1 hq3) 0 _ rfl) (below_set (below_step i3 hq3) (by omega)) (by have := hB.size; omega)
    · obtain ⟨n, hn⟩ : ∃ n : Nat, (n : Int) = c2 * c3 := ⟨(c2 * c3).toNat, by have := Int.mul_nonneg b1 b3; omega⟩
      have hn64 : (n : Int) ≤ 65536 := by
        rw [hn]
        have := Int.mul_le_mul b2 b4 b3 (by omega)
        omega
      have hcc : c2 * c3 = (n : Int) := hn.symm
      rw [hcc] at hKn hend
      have HE := Aside0.mk hend
      clear hn hall hend
      by_cases hlt : K < n
      · have hmid := HE.out (by omega)
        have HM := Aside0.mk hmid
        have b2p : 1 ≤ c2 := by
          rcases Int.lt_or_le 0 c2 with hc | hc
          · omega
          · obtain rfl : c2 = 0 := by omega
            rw [Int.zero_mul] at hcc
            omega
        have q2 : wrap64 ((K : Int) / c2) = (K : Int) / c2 := by
          have h1 : 0 ≤ (K : Int) / c2 := Int.ediv_nonneg (by omega) (by omega)
          have h2 : (K : Int) / c2 ≤ K := Int.ediv_le_self _ (by omega)
          unfold wrap64
          omega
        have q3 : ¬ c2 = 0 := by omega
        have q1 : Int.tmod (K : Int) c2 = (K : Int) % c2 := Int.tmod_eq_emod_of_nonneg (by omega)
        clear hmid
        gi_wp2_with (first | (gi_at_call 8; refine (callsIn_wide.2 (pochoirref25_May.calls c0 c1 c2 c3 true _ hok)).mono ?_; rintro e w2 ⟨rfl, hq⟩; have e4 : w2.cell? ⟨w.heap.size + 1, 0, none⟩ = some (.int .i64 em) := (blk_cell (blk_below i2.2.1 hq) 0).trans rfl) | (gi_at_call 15; refine (callsIn_wide.2 (pochoirref25_Em.calls em true _ hek)).mono ?_; rintro e w3 ⟨rfl, hq2⟩; have hq3 := below_step hq (Drawn0.below hq2); have e0 : w3.cell? ⟨w.heap.size, 2, none⟩ = some (.int .i64 c2) := (blk_cell (blk_below i2.1 hq3) 2).trans rfl; have e1 : w3.cell? ⟨w.heap.size, 3, none⟩ = some (.int .i64 c3) := (blk_cell (blk_below i2.1 hq3) 3).trans rfl; have e5 : w3.cell? ⟨w.heap.size + 1 + 1 + 1 + 1, 0, none⟩ = some (.int .i64 K) := (blk_cell (blk_below i2.2.2.2.2 hq3) 0).trans rfl))
        refine wpIn_wide.2 ?_
        have j2 := i2.below hq3
        obtain ⟨S, hS⟩ : ∃ S : World → Prop, S = fun w' => told.Bk w.heap.size c0 c1 c2 c3 em most false K w' ∧ Below w3.heap.size w3 w' := ⟨_, rfl⟩
        have HS := Aside0.mk hS
        have hS0 : S w3.drew := by rw [hS]; exact ⟨j2, below_drew1 (Below.refl _ _)⟩
        have hSb : ∀ A B, S A → Below A.heap.size A B → S B := by rw [hS]; exact fun A B h k => ⟨h.1.below k, below_step h.2 k⟩
        have hSs : ∀ (A : World) (g j : Nat) (v : Value) (cs : Array Value), S A → w3.heap.size ≤ g → A.heap[g]? = some (.cells cs 27 (0, 0)) → S (A.setCell ⟨g, j, none⟩ v) := by
          rw [hS]
          exact fun A g j v cs h hge hb => ⟨h.1.far g j v (by have := blk_lt j2.2.2.2.2; omega), below_set h.2 hge⟩
        have hSz : ∀ A, S A → w3.heap.size ≤ A.heap.size := by rw [hS]; exact fun A h => h.2.size
        obtain ⟨wb, hwb⟩ : ∃ wb, wb = w3 := ⟨_, rfl⟩
        rw [← hwb] at hSs hSz
        have HWB := Aside0.mk hwb
        have hmid := HM.out
        clear hS hwb a0 a1 a2 a3 e4 e0 e1 e5
        refine wp_region_noPanic ?_
        refine start_ (n := 17) (S := S) (ds := []) #[false, false, false, false, false, false, false, false, false, false, false, false, false, false, false, false, false] (by kernel_rfl) rfl rfl hS0 (fun hHeld => ?_)
        generalize w3.drew = wd at hHeld ⊢
        refine pure_ (i := 3) (N := some 85) (v := ?_) (a' := ?_) #[false, false, false, true, false, false, false, false, false, false, false, false, false, false, false, false, false] rfl rfl (by kernel_rfl) (fun _ _ _ h => h) (Or.inl ⟨by rfl, ?_⟩) ?_ ?_
        rotate_left
        · intro w'
          go_simp
          with_reducible rfl
        rotate_left
        · simp only [Act.put, List.setIfInBounds_toArray, List.set_cons_zero, List.set_cons_succ, i64_w, i32_w]
          rfl
        refine pure_ (i := 7) (N := some 89) (v := ?_) (a' := ?_) #[false, false, false, true, false, false, false, true, false, false, false, false, false, false, false, false, false] rfl rfl (by kernel_rfl) (fun _ _ _ h => h) (Or.inl ⟨by rfl, ?_⟩) ?_ ?_
        rotate_left
        · intro w'
          go_simp
          with_reducible rfl
        rotate_left
        · simp only [Act.put, List.setIfInBounds_toArray, List.set_cons_zero, List.set_cons_succ, i64_w, i32_w]
          rfl
        refine take_ (i := 0) (N := some 82) (v := ?_) (a' := ?_) #[true, false, false, true, false, false, false, true, false, false, false, false, false, false, false, false, false] rfl rfl (by kernel_rfl) (fun _ _ _ h => h) (Or.inl ⟨by rfl, ?_⟩) hHeld ?_ ?_
        rotate_left
        · intro w' s_
          rw [HS.out] at s_
          obtain ⟨⟨s1, s2, s3, s4, s5⟩, _⟩ := s_
          have a0 : w'.cell? ⟨w.heap.size, 0, none⟩ = some (.int .i64 c0) := (blk_cell s1 0).trans rfl
          have a1 : w'.cell? ⟨w.heap.size, 1, none⟩ = some (.int .i64 c1) := (blk_cell s1 1).trans rfl
          have a2 : w'.cell? ⟨w.heap.size, 2, none⟩ = some (.int .i64 c2) := (blk_cell s1 2).trans rfl
          have a3 : w'.cell? ⟨w.heap.size, 3, none⟩ = some (.int .i64 c3) := (blk_cell s1 3).trans rfl
          have a4 : w'.cell? ⟨w.heap.size + 1, 0, none⟩ = some (.int .i64 em) := (blk_cell s2 0).trans rfl
          have a5 : w'.cell? ⟨w.heap.size + 1 + 1 + 1 + 1, 0, none⟩ = some (.int .i64 (K : Int)) := (blk_cell s5 0).trans rfl
          go_simp
          with_reducible rfl
        rotate_left
        · simp only [Act.put, List.setIfInBounds_toArray, List.set_cons_zero, List.set_cons_succ, i64_w, i32_w]
          rfl
        refine take_ (i := 1) (N := some 83) (v := ?_) (a' := ?_) #[true, true, false, true, false, false, false, true, false, false, false, false, false, false, false, false, false] rfl rfl (by kernel_rfl) (fun _ _ _ h => h) (Or.inl ⟨by rfl, ?_⟩) hHeld ?_ ?_
        rotate_left
        · intro w' s_
          rw [HS.out] at s_
          obtain ⟨⟨s1, s2, s3, s4, s5⟩, _⟩ := s_
          have a0 : w'.cell? ⟨w.heap.size, 0, none⟩ = some (.int .i64 c0) := (blk_cell s1 0).trans rfl
          have a1 : w'.cell? ⟨w.heap.size, 1, none⟩ = some (.int .i64 c1) := (blk_cell s1 1).trans rfl
          have a2 : w'.cell? ⟨w.heap.size, 2, none⟩ = some (.int .i64 c2) := (blk_cell s1 2).trans rfl
          have a3 : w'.cell? ⟨w.heap.size, 3, none⟩ = some (.int .i64 c3) := (blk_cell s1 3).trans rfl
          have a4 : w'.cell? ⟨w.heap.size + 1, 0, none⟩ = some (.int .i64 em) := (blk_cell s2 0).trans rfl
          have a5 : w'.cell? ⟨w.heap.size + 1 + 1 + 1 + 1, 0, none⟩ = some (.int .i64 (K : Int)) := (blk_cell s5 0).trans rfl
          go_simp
          with_reducible rfl
        rotate_left
        · simp only [Act.put, List.setIfInBounds_toArray, List.set_cons_zero, List.set_cons_succ, i64_w, i32_w]
          rfl
        refine take_ (i := 2) (N := some 84) (v := ?_) (a' := ?_) #[true, true, true, true, false, false, false, true, false, false, false, false, false, false, false, false, false] rfl rfl (by kernel_rfl) (fun _ _ _ h => h) (Or.inl ⟨by rfl, ?_⟩) hHeld ?_ ?_
        rotate_left
        · intro w' s_
          rw [HS.out] at s_
          obtain ⟨⟨s1, s2, s3, s4, s5⟩, _⟩ := s_
          have a0 : w'.cell? ⟨w.heap.size, 0, none⟩ = some (.int .i64 c0) := (blk_cell s1 0).trans rfl
          have a1 : w'.cell? ⟨w.heap.size, 1, none⟩ = some (.int .i64 c1) := (blk_cell s1 1).trans rfl
          have a2 : w'.cell? ⟨w.heap.size, 2, none⟩ = some (.int .i64 c2) := (blk_cell s1 2).trans rfl
          have a3 : w'.cell? ⟨w.heap.size, 3, none⟩ = some (.int .i64 c3) := (blk_cell s1 3).trans rfl
          have a4 : w'.cell? ⟨w.heap.size + 1, 0, none⟩ = some (.int .i64 em) := (blk_cell s2 0).trans rfl
          have a5 : w'.cell? ⟨w.heap.size + 1 + 1 + 1 + 1, 0, none⟩ = some (.int .i64 (K : Int)) := (blk_cell s5 0).trans rfl
          go_simp
          with_reducible rfl
        rotate_left
        · simp only [Act.put, List.setIfInBounds_toArray, List.set_cons_zero, List.set_cons_succ, i64_w, i32_w]
          rfl
        refine take_ (i := 4) (N := some 86) (v := ?_) (a' := ?_) #[true, true, true, true, true, false, false, true, false, false, false, false, false, false, false, false, false] rfl rfl (by kernel_rfl) (fun _ _ _ h => h) (Or.inl ⟨by rfl, ?_⟩) hHeld ?_ ?_
        rotate_left
        · intro w' s_
          rw [HS.out] at s_
          obtain ⟨⟨s1, s2, s3, s4, s5⟩, _⟩ := s_
          have a0 : w'.cell? ⟨w.heap.size, 0, none⟩ = some (.int .i64 c0) := (blk_cell s1 0).trans rfl
          have a1 : w'.cell? ⟨w.heap.size, 1, none⟩ = some (.int .i64 c1) := (blk_cell s1 1).trans rfl
          have a2 : w'.cell? ⟨w.heap.size, 2, none⟩ = some (.int .i64 c2) := (blk_cell s1 2).trans rfl
          have a3 : w'.cell? ⟨w.heap.size, 3, none⟩ = some (.int .i64 c3) := (blk_cell s1 3).trans rfl
          have a4 : w'.cell? ⟨w.heap.size + 1, 0, none⟩ = some (.int .i64 em) := (blk_cell s2 0).trans rfl
          have a5 : w'.cell? ⟨w.heap.size + 1 + 1 + 1 + 1, 0, none⟩ = some (.int .i64 (K : Int)) := (blk_cell s5 0).trans rfl
          go_simp
          with_reducible rfl
        rotate_left
        · simp only [Act.put, List.setIfInBounds_toArray, List.set_cons_zero, List.set_cons_succ, i64_w, i32_w]
          rfl
        refine take_ (i := 6) (N := some 88) (v := ?_) (a' := ?_) #[true, true, true, true, true, false, true, true, false, false, false, false, false, false, false, false, false] rfl rfl (by kernel_rfl) (fun _ _ _ h => h) (Or.inl ⟨by rfl, ?_⟩) hHeld ?_ ?_
        rotate_left
        · intro w' s_
          rw [HS.out] at s_
          obtain ⟨⟨s1, s2, s3, s4, s5⟩, _⟩ := s_
          have a0 : w'.cell? ⟨w.heap.size, 0, none⟩ = some (.int .i64 c0) := (blk_cell s1 0).trans rfl
          have a1 : w'.cell? ⟨w.heap.size, 1, none⟩ = some (.int .i64 c1) := (blk_cell s1 1).trans rfl
          have a2 : w'.cell? ⟨w.heap.size, 2, none⟩ = some (.int .i64 c2) := (blk_cell s1 2).trans rfl
          have a3 : w'.cell? ⟨w.heap.size, 3, none⟩ = some (.int .i64 c3) := (blk_cell s1 3).trans rfl
          have a4 : w'.cell? ⟨w.heap.size + 1, 0, none⟩ = some (.int .i64 em) := (blk_cell s2 0).trans rfl
          have a5 : w'.cell? ⟨w.heap.size + 1 + 1 + 1 + 1, 0, none⟩ = some (.int .i64 (K : Int)) := (blk_cell s5 0).trans rfl
          go_simp
          with_reducible rfl
        rotate_left
        · simp only [Act.put, List.setIfInBounds_toArray, List.set_cons_zero, List.set_cons_succ, i64_w, i32_w]
          rfl
        refine take_ (i := 8) (N := some 90) (v := ?_) (a' := ?_) #[true, true, true, true, true, false, true, true, true, false, false, false, false, false, false, false, false] rfl rfl (by kernel_rfl) (fun _ _ _ h => h) (Or.inl ⟨by rfl, ?_⟩) hHeld ?_ ?_
        rotate_left
        · intro w' s_
          rw [HS.out] at s_
          obtain ⟨⟨s1, s2, s3, s4, s5⟩, _⟩ := s_
          have a0 : w'.cell? ⟨w.heap.size, 0, none⟩ = some (.int .i64 c0) := (blk_cell s1 0).trans rfl
          have a1 : w'.cell? ⟨w.heap.size, 1, none⟩ = some (.int .i64 c1) := (blk_cell s1 1).trans rfl
          have a2 : w'.cell? ⟨w.heap.size, 2, none⟩ = some (.int .i64 c2) := (blk_cell s1 2).trans rfl
          have a3 : w'.cell? ⟨w.heap.size, 3, none⟩ = some (.int .i64 c3) := (blk_cell s1 3).trans rfl
          have a4 : w'.cell? ⟨w.heap.size + 1, 0, none⟩ = some (.int .i64 em) := (blk_cell s2 0).trans rfl
          have a5 : w'.cell? ⟨w.heap.size + 1 + 1 + 1 + 1, 0, none⟩ = some (.int .i64 (K : Int)) := (blk_cell s5 0).trans rfl
          go_simp
          with_reducible rfl
        rotate_left
        · simp only [Act.put, List.setIfInBounds_toArray, List.set_cons_zero, List.set_cons_succ, i64_w, i32_w]
          rfl
        refine pure_ (i := 5) (N := some 87) (v := ?_) (a' := ?_) #[true, true, true, true, true, true, true, true, true, false, false, false, false, false, false, false, false] rfl rfl (by kernel_rfl) (fun _ _ _ h => h) (Or.inl ⟨by rfl, ?_⟩) ?_ ?_
        rotate_left
        · intro w'
          go_simp
          with_reducible rfl
        rotate_left
        · simp only [Act.put, List.setIfInBounds_toArray, List.set_cons_zero, List.set_cons_succ, i64_w, i32_w]
          rfl
        refine pure_ (i := 9) (N := some 91) (v := ?_) (a' := ?_) #[true, true, true, true, true, true, true, true, true, true, false, false, false, false, false, false, false] rfl rfl (by kernel_rfl) (fun _ _ _ h => h) (Or.inl ⟨by rfl, ?_⟩) ?_ ?_
        rotate_left
        · intro w'
          go_simp
          with_reducible rfl
        rotate_left
        · simp only [Act.put, List.setIfInBounds_toArray, List.set_cons_zero, List.set_cons_succ, i64_w, i32_w, q2]
          rfl
        refine join_ (σ := Nat) 2 #[true, true, true, true, true, true, true, true, true, true, true, true, true, true, true, false, false] (fun s_ => [(92, .tuple #[.agg #[.int .i64 (0), .int .i64 (0)], .int .i64 (2)]), (12, .pointer (some ⟨s_, 0, none⟩)), (81, .tuple #[.agg #[.int .i64 (0), .int .i64 (0)], .int .i64 (2)]), (93, .agg #[.int .i64 (0), .int .i64 (0)]), (94, .int .i64 (2))]) (fun s_ w' => S w' ∧ w'.heap[s_]? = some (.cells #[.int .i64 0, .int .i64 0] 27 (0, 0)) ∧ wb.heap.size ≤ s_) ?_ ?_
        rotate_left
        · intro hCont
          refine two_ (i := 10) (j := 14) (Ni := some 92) (Nj := some 12) #[true, true, true, true, true, true, true, true, true, true, true, false, false, false, false, false, false] #[true, true, true, true, true, true, true, true, true, true, false, false, false, false, true, false, false] rfl rfl rfl rfl (by kernel_rfl) (by decide) (by decide) (fun Kc hKc => ?_) (fun Kc hKc => ?_)
          · skip
            refine goes_ Try.func6 (by kernel_rfl) rfl #[.agg #[.int .i64 c0, .int .i64 c1, .int .i64 c2, .int .i64 c3], .int .i64 em, .int .i64 ((K : Int) % c2), .int .i64 ((K : Int) / c2)] (by rfl) rfl rfl (by (try simp only [List.map_toArray, List.map_cons, List.map_nil]); first | done | rfl) ?_
            with_reducible refine (pochoirref25_Middle.calls 2 c0 c1 c2 c3 em _ _ _ _ _ _ hmid).mono ?_
            rintro e w' ⟨rfl, hq⟩
            refine ⟨_, rfl, ?_⟩
            refine hKc.out _ _ (hSb _ _ hHeld hq) (fun hHeld => ?_)
            clear hKc Kc
            refine norm_ (a' := ?_) ?_ ?_
            rotate_left
            · show Act.put _ (some 92) _ = _
              simp only [Act.put, List.setIfInBounds_toArray, List.set_cons_zero, List.set_cons_succ, i64_w, i32_w]
              rfl
            refine pure_ (i := 11) (N := some 81) (v := ?_) (a' := ?_) #[true, true, true, true, true, true, true, true, true, true, true, true, false, false, false, false, false] rfl rfl (by kernel_rfl) (fun _ _ _ h => h) (Or.inl ⟨by rfl, ?_⟩) ?_ ?_
            rotate_left
            · intro w'
              go_simp
              with_reducible rfl
            rotate_left
            · simp only [Act.put, List.setIfInBounds_toArray, List.set_cons_zero, List.set_cons_succ, i64_w, i32_w]
              rfl
            refine pure_ (i := 12) (N := some 93) (v := ?_) (a' := ?_) #[true, true, true, true, true, true, true, true, true, true, true, true, true, false, false, false, false] rfl rfl (by kernel_rfl) (fun _ _ _ h => h) (Or.inl ⟨by rfl, ?_⟩) ?_ ?_
            rotate_left
            · intro w'
              go_simp
              with_reducible rfl
            rotate_left
            · simp only [Act.put, List.setIfInBounds_toArray, List.set_cons_zero, List.set_cons_succ, i64_w, i32_w]
              rfl
            refine pure_ (i := 13) (N := some 94) (v := ?_) (a' := ?_) #[true, true, true, true, true, true, true, true, true, true, true, true, true, true, false, false, false] rfl rfl (by kernel_rfl) (fun _ _ _ h => h) (Or.inl ⟨by rfl, ?_⟩) ?_ ?_
            rotate_left
            · intro w'
              go_simp
              with_reducible rfl
            rotate_left
            · simp only [Act.put, List.setIfInBounds_toArray, List.set_cons_zero, List.set_cons_succ, i64_w, i32_w]
              rfl
            refine one_ (i := 14) (N := some 12) #[true, true, true, true, true, true, true, true, true, true, true, true, true, true, true, false, false] rfl rfl (by kernel_rfl) (by decide) (fun Kc hKc => ?_)
            refine box_step ?hg (N := 12) ?hd (cs := #[.int .i64 0, .int .i64 0]) (t := 27) ?hr ?_; (case hd => rfl); (case hg => rfl); (case hr => first | (go_simp; done) | (go_simp; rfl))
            intro g_ hg w3 hbox hb
            have hge : wb.heap.size ≤ g_ := by rw [hg]; exact hSz _ hHeld
            refine hKc.out _ _ (hSb _ _ hHeld hb) (fun hHeld => ?_)
            clear hKc Kc
            refine norm_ (a' := ?_) ?_ ?_
            rotate_left
            · show Act.put _ (some 12) _ = _
              simp only [Act.put, List.setIfInBounds_toArray, List.set_cons_zero, List.set_cons_succ, i64_w, i32_w]
              rfl
            exact norm_ (by first | (simp only [putAll, Act.put, List.setIfInBounds_toArray, List.set_cons_zero, List.set_cons_succ]; done) | (simp only [putAll, Act.put, List.setIfInBounds_toArray, List.set_cons_zero, List.set_cons_succ]; rfl)) (hCont g_ _ ⟨hHeld, hbox, hge⟩)
          · skip
            refine box_step ?hg (N := 12) ?hd (cs := #[.int .i64 0, .int .i64 0]) (t := 27) ?hr ?_; (case hd => rfl); (case hg => rfl); (case hr => first | (go_simp; done) | (go_simp; rfl))
            intro g_ hg w3 hbox hb
            have hge : wb.heap.size ≤ g_ := by rw [hg]; exact hSz _ hHeld
            refine hKc.out _ _ (hSb _ _ hHeld hb) (fun hHeld => ?_)
            clear hKc Kc
            refine norm_ (a' := ?_) ?_ ?_
            rotate_left
            · show Act.put _ (some 12) _ = _
              simp only [Act.put, List.setIfInBounds_toArray, List.set_cons_zero, List.set_cons_succ, i64_w, i32_w]
              rfl
            refine one_ (i := 10) (N := some 92) #[true, true, true, true, true, true, true, true, true, true, true, false, false, false, true, false, false] rfl rfl (by kernel_rfl) (by decide) (fun Kc hKc => ?_)
            refine goes_ Try.func6 (by kernel_rfl) rfl #[.agg #[.int .i64 c0, .int .i64 c1, .int .i64 c2, .int .i64 c3], .int .i64 em, .int .i64 ((K : Int) % c2), .int .i64 ((K : Int) / c2)] (by rfl) rfl rfl (by (try simp only [List.map_toArray, List.map_cons, List.map_nil]); first | done | rfl) ?_
            with_reducible refine (pochoirref25_Middle.calls 2 c0 c1 c2 c3 em _ _ _ _ _ _ hmid).mono ?_
            rintro e w' ⟨rfl, hq⟩
            refine ⟨_, rfl, ?_⟩
            refine hKc.out _ _ (hSb _ _ hHeld hq) (fun hHeld => ?_)
            clear hKc Kc
            refine norm_ (a' := ?_) ?_ ?_
            rotate_left
            · show Act.put _ (some 92) _ = _
              simp only [Act.put, List.setIfInBounds_toArray, List.set_cons_zero, List.set_cons_succ, i64_w, i32_w]
              rfl
            refine pure_ (i := 11) (N := some 81) (v := ?_) (a' := ?_) #[true, true, true, true, true, true, true, true, true, true, true, true, false, false, true, false, false] rfl rfl (by kernel_rfl) (fun _ _ _ h => h) (Or.inl ⟨by rfl, ?_⟩) ?_ ?_
            rotate_left
            · intro w'
              go_simp
              with_reducible rfl
            rotate_left
            · simp only [Act.put, List.setIfInBounds_toArray, List.set_cons_zero, List.set_cons_succ, i64_w, i32_w]
              rfl
            refine pure_ (i := 12) (N := some 93) (v := ?_) (a' := ?_) #[true, true, true, true, true, true, true, true, true, true, true, true, true, false, true, false, false] rfl rfl (by kernel_rfl) (fun _ _ _ h => h) (Or.inl ⟨by rfl, ?_⟩) ?_ ?_
            rotate_left
            · intro w'
              go_simp
              with_reducible rfl
            rotate_left
            · simp only [Act.put, List.setIfInBounds_toArray, List.set_cons_zero, List.set_cons_succ, i64_w, i32_w]
              rfl
            refine pure_ (i := 13) (N := some 94) (v := ?_) (a' := ?_) #[true, true, true, true, true, true, true, true, true, true, true, true, true, true, true, false, false] rfl rfl (by kernel_rfl) (fun _ _ _ h => h) (Or.inl ⟨by rfl, ?_⟩) ?_ ?_
            rotate_left
            · intro w'
              go_simp
              with_reducible rfl
            rotate_left
            · simp only [Act.put, List.setIfInBounds_toArray, List.set_cons_zero, List.set_cons_succ, i64_w, i32_w]
              rfl
            exact norm_ (by first | (simp only [putAll, Act.put, List.setIfInBounds_toArray, List.set_cons_zero, List.set_cons_succ]; done) | (simp only [putAll, Act.put, List.setIfInBounds_toArray, List.set_cons_zero, List.set_cons_succ]; rfl)) (hCont g_ _ ⟨hHeld, blk_below hbox hq, hge⟩)
        rintro g_ w4 ⟨hHeld, hbox, hge⟩
        refine norm_ (a' := ?_) ?_ ?_
        rotate_left
        · simp only [putAll, Act.put, List.setIfInBounds_toArray, List.set_cons_zero, List.set_cons_succ]
          rfl
        refine one_ (i := 15) (N := none) #[true, true, true, true, true, true, true, true, true, true, true, true, true, true, true, true, false] rfl rfl (by kernel_rfl) (by decide) (fun Kc hKc => ?_)
        have hc0 : w4.cell? ⟨g_, 0, none⟩ = some (.int .i64 0) := (blk_cell hbox 0).trans rfl
        have hc1 : w4.cell? ⟨g_, 1, none⟩ = some (.int .i64 0) := (blk_cell hbox 1).trans rfl
        have hf0 := blk_frozen hbox 0
        have hf1 := blk_frozen hbox 1
        refine skip_ (w1 := ?_) (by rfl) rfl ?_ ?_
        rotate_left
        · go_simp
          rfl
        have hbox2 := blk_put (blk_put hbox 0 (.int .i64 (0)) rfl) 1 (.int .i64 (0)) rfl
        refine hKc.out _ _ (hSs _ _ _ _ _ (hSs _ _ _ _ _ hHeld hge hbox) hge (blk_put hbox 0 (.int .i64 (0)) rfl)) (fun hHeld => ?_)
        clear hKc Kc hc0 hc1 hf0 hf1
        refine pure_ (i := 16) (N := some 13) (v := ?_) (a' := ?_) #[true, true, true, true, true, true, true, true, true, true, true, true, true, true, true, true, true] rfl rfl (by kernel_rfl) (fun _ _ _ h => h) (Or.inl ⟨by rfl, ?_⟩) ?_ ?_
        rotate_left
        · intro w'
          go_simp
          with_reducible rfl
        rotate_left
        · simp only [Act.put, List.setIfInBounds_toArray, List.set_cons_zero, List.set_cons_succ, i64_w, i32_w]
          rfl
        refine done_ (by kernel_rfl) ?_
        refine NoPanic.normal ?_
        clear hbox
        generalize (w4.setCell { block := g_, off := 0 } (Value.int IntKind.i64 0)).setCell { block := g_, off := 1 } (Value.int IntKind.i64 0) = w5 at hHeld hbox2 ⊢
        obtain rfl := HWB.out
        have HH := HS.out ▸ hHeld
        obtain ⟨z1, z2⟩ := HH
        clear hHeld hS0 hSb hSs hSz HS HWB q2 q3 HM
        have z3 := below_step hq3 z2
        have e6 : w5.cell? ⟨w.heap.size + 1 + 1 + 1, 0, none⟩ = some (.bool false) := (blk_cell z1.2.2.2.1 0).trans rfl
        have e7 := blk_frozen z1.2.2.2.1 0
        gi_wp2
        refine told.finish w _ D _ rfl ((Below.heap_setCell _ _ _ _ (by simp; omega)).trans ((z3.block D (Array.getElem?_eq_some_iff.1 hK).1).trans hK)) (blk_put z1.2.2.2.1 0 _ rfl) (below_set (below_step i3 z3) (by omega)) (by have := hB.size; omega)
      · obtain rfl : K = n := by omega
        gi_wp2_with (first | (gi_at_call 8; refine (callsIn_wide.2 (pochoirref25_May.calls c0 c1 c2 c3 true _ hok)).mono ?_; rintro e w2 ⟨rfl, hq⟩; have e4 : w2.cell? ⟨w.heap.size + 1, 0, none⟩ = some (.int .i64 em) := (blk_cell (blk_below i2.2.1 hq) 0).trans rfl) | (gi_at_call 15; refine (callsIn_wide.2 (pochoirref25_Em.calls em true _ hek)).mono ?_; rintro e w3 ⟨rfl, hq2⟩; have hq3 := below_step hq (Drawn0.below hq2); have e0 : w3.cell? ⟨w.heap.size, 2, none⟩ = some (.int .i64 c2) := (blk_cell (blk_below i2.1 hq3) 2).trans rfl; have e1 : w3.cell? ⟨w.heap.size, 3, none⟩ = some (.int .i64 c3) := (blk_cell (blk_below i2.1 hq3) 3).trans rfl; have e5 : w3.cell? ⟨w.heap.size + 1 + 1 + 1 + 1, 0, none⟩ = some (.int .i64 K) := (blk_cell (blk_below i2.2.2.2.2 hq3) 0).trans rfl; have e6 : w3.cell? ⟨w.heap.size + 1 + 1 + 1, 0, none⟩ = some (.bool false) := (blk_cell (blk_below i2.2.2.2.1 hq3) 0).trans rfl; have e7 := blk_frozen (blk_below i2.2.2.2.1 hq3) 0))
        all_goals refine told.finish w _ D _ rfl ((Below.heap_setCell _ _ _ _ (by simp; omega)).trans ((hq3.block D (Array.getElem?_eq_some_iff.1 hK).1).trans hK)) (blk_put (blk_below i2.2.2.2.1 hq3) 0 _ rfl) (below_set (below_step i3 hq3) (by omega)) (by have := hB.size; omega)
  case stop =>
    rintro D c pre W hD ⟨k, _, rfl⟩ ⟨rfl, b, n, i2, i4, i3⟩ hK
    obtain rfl := i4 (by simp)
    gi_wp2
    exact told.finish w _ D _ rfl hK i2.2.2.2.1 i3 (by have := hB.size; omega)
def pochoirlaw25_told.f (_a0_0 : Int) (_a0_1 : Int) (_a0_2 : Int) (_a0_3 : Int) (_a1 : Int) (_a2 : Int) : Option (Bool) := some true
theorem pochoirlaw25_told.calls (a0_0 : Int) (a0_1 : Int) (a0_2 : Int) (a0_3 : Int) (a1 : Int) (a2 : Int) (r : Bool) (w : World) (h : pochoirlaw25_told.f a0_0 a0_1 a0_2 a0_3 a1 a2 = some r) :
    Calls Try.prog 9 #[.agg #[.int .i64 a0_0, .int .i64 a0_1, .int .i64 a0_2, .int .i64 a0_3], .int .i64 a1, .int .i64 a2] w fun e w' => e = .returned (.bool r) ∧ Below w.heap.size w w' := by
  obtain rfl := Option.some.inj h
  exact told.main a0_0 a0_1 a0_2 a0_3 a1 a2 w

end Go.Proofs.Ythimbpoeoegehaa.Pr
