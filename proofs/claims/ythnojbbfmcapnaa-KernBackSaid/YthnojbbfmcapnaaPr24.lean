-- printed by a program of this session's (wip/mp.sh), out of the translation; the texts of its folder 'given' are typed by hand
-- shortened (wip/short.py)
import Derived.Test.YthnojbbfmcapnaaPr0
namespace Go.Proofs.Ythnojbbfmcapnaa.Pr
open Go.RowKit Go.Proofs.YthnojbbfmcapnaaW.PrintWords Go.Proofs.YthnojbbfmcapnaaW.PrintLast Go.Proofs.YthnojbbfmcapnaaW.PrintMore
attribute [local go_sem] max2_int min2_int max_two min_two max_three min_three max_four min_four   -- for this text's walks alone
set_option linter.unusedVariables false
set_option linter.unusedSimpArgs false

/-! ### pochoirref40_three: function 23 -/
def pochoirref40_three.l0 : Nat → Int → Int → Int → Option (List Int)
 | 0, _, _, _ => none
 | k + 1, x0, x3, x4 => if (wrap64 (2 * x3)) ≤ x0 then (pochoirref40_three.l0 k x0 (wrap64 (2 * x3)) (wrap64 (x4 + 1))) else (some (([wrap64 (6 * x3), x4, wrap64 ((wrap64 (6 * x0)) - (wrap64 (6 * x3)))] : List Int)))
def pochoirref40_three.f (k : Nat) (a0 : Int) : Option (List Int) := if a0 = 0 then (some (([0, 0, 0] : List Int))) else (pochoirref40_three.l0 k a0 1 0)
theorem pochoirref40_three.mono_l : ∀ k, (∀ y0 y1 y2, LeO (pochoirref40_three.l0 k y0 y1 y2) (pochoirref40_three.l0 (k + 1) y0 y1 y2))
 | 0 => fun _ _ _ r h => by simp [pochoirref40_three.l0] at h
 | k + 1 => by
  have ih0 := pochoirref40_three.mono_l k
  ·intro y0 y1 y2
   unfold pochoirref40_three.l0
   repeat' first
   | (with_reducible exact ih0 _ _ _)
   | (with_reducible exact LeO.refl _)
   | (with_reducible exact LeO.none _)
   | (with_reducible refine LeO.ite ?_ ?_)
   | (with_reducible refine LeO.bind ?_ (fun _ => ?_))
   | exact ih0 _ _ _
   | exact LeO.none _
   | refine LeO.ite ?_ ?_
   | refine LeO.bind ?_ (fun _ => ?_)
theorem pochoirref40_three.mono : ∀ a0 k, LeO (pochoirref40_three.f k a0) (pochoirref40_three.f (k + 1) a0) := by
 intro a0 k
 have ih0 := pochoirref40_three.mono_l k
 unfold pochoirref40_three.f
 repeat' first
   | (with_reducible exact ih0 _ _ _)
   | (with_reducible exact LeO.refl _)
   | (with_reducible exact LeO.none _)
   | (with_reducible refine LeO.ite ?_ ?_)
   | (with_reducible refine LeO.bind ?_ (fun _ => ?_))
   | exact ih0 _ _ _
   | exact LeO.none _
   | refine LeO.ite ?_ ?_
   | refine LeO.bind ?_ (fun _ => ?_)
set_option maxHeartbeats 8000000 in
set_option maxRecDepth 100000 in
theorem pochoirref40_three.calls (k : Nat) (a0 : Int) (r : List Int) (w : World) (h : pochoirref40_three.f k a0 = some r) :
  Calls Try.prog 23 #[.int .i64 a0] w fun e w' => ∃ v0_ : Value, e = .returned (v0_) ∧ Kd.R (Kd.int .i64) 3 w' w.heap.size (fun _ => True) v0_ r ∧ Below w.heap.size w w' := by
 have HB := Aside0.mk (Below.refl w.heap.size w)
 have H : (if a0 = 0 then (some (([0, 0, 0] : List Int))) else (pochoirref40_three.l0 k a0 1 0)) = some r := h
 clear h
 by_cases c2 : a0 = 0
 ·rw [if_pos c2] at H
  have ai : (a0 == 0) = true := beq_iff_eq.mpr c2
  have aj : (a0 != 0) = false := bne_eq_false_iff_eq.mpr c2
  clear c2
  obtain ⟨ao, ac⟩ : ∃ y_ : List Int, y_ = (([0, 0, 0] : List Int)) := ⟨_, rfl⟩
  replace H : (some ao) = some r := by first | (rw [ac]; with_reducible exact H) | (have H2_ := (Option.bind_some _ _).symm.trans H; rw [ac]; with_reducible exact H2_) | (have H2_ := (Option.bind_some _ _).symm.trans H; with_reducible exact H2_) | with_reducible exact H | (rw [ac]; exact H) | exact H
  have Ny190 := Aside0.mk ac
  clear ac
  obtain rfl := Option.some.inj H
  go_enter Try.func23, Try.ntmps23
  go_wp2_with (first | ((with_reducible refine gate_dst (N := 7) rfl ?_); refine Kd.R_lit (Kd.int .i64) _ 3 ?hg (N := 7) ?hd (xs := ([0, 0, 0] : List Int)) (inner := [.int .i64 0, .int .i64 0, .int .i64 0]) (ok := fun _ => True) (okp := fun _ => True) ?hr ?hp (fun _ hk => hk) trivial (Below.refl _ _) (Nat.le_refl _) (by simp) ?_; (case hd => rfl); (case hg => rfl); (case hr => first | (go_simp; done) | (go_simp; rfl)); (case hp => exact (Reps.one (show Kd.M (Kd.int .i64) _ _ _ 0 [.int .i64 0] from rfl) (Reps.one (show Kd.M (Kd.int .i64) _ _ _ 0 [.int .i64 0] from rfl) (Reps.one (show Kd.M (Kd.int .i64) _ _ _ 0 [.int .i64 0] from rfl) (Reps.none _ _))))); intro v191 w3 ae hb hg_ hnew_; clear hg_ hnew_; (first | rw [← Ny190.out] at ae | (simp only [Int.reduceToNat] at ae; rw [← Ny190.out] at ae)); have af := Aside0.mk (Kd.R_lower ae (below_size (by exact lB HB.out))); have ag := Aside0.mk (below_step (by exact lB HB.out) hb); clear HB; have al := af; have HB := ag; clear af ag; clear hb ae))
  go_ret
  exact ⟨_, by first | rfl | (simp [errW_none, errW_some] <;> rfl) | (simp [*, errW_none, errW_some] <;> rfl), by (with_reducible repeat (first | apply Kd.R_alloc | apply Kd.R_drewN | apply Kd.R_drew)); exact al.out, by exact lB HB.out⟩
 ·rw [if_neg c2] at H
  have ai : (a0 == 0) = false := beq_eq_false_iff_ne.mpr c2
  have aj : (a0 != 0) = true := bne_iff_ne.mpr c2
  have H' := Aside0.mk H
  clear H
  go_enter Try.func23, Try.ntmps23
  go_wp2
  go_loopg [3, 4] k (fun kq v3 v4 w' => ∃ (aa : Int) (ab : Int), v3 = .int .i64 aa ∧ v4 = .int .i64 ab ∧ Aside0 (pochoirref40_three.l0 kq a0 aa ab = some r) ∧ Aside0 (kq ≤ k) ∧ Aside0 (Below w.heap.size w w'))
  case atStart => exact ⟨(1), (0), (by first | rfl | (simp; done) | (simp [*]; done)), (by first | rfl | (simp; done) | (simp [*]; done)), H', ⟨Nat.le_refl _⟩, ⟨by exact lB HB.out⟩⟩
  case round =>
   clear H'
   try clear c2
   try clear ai
   try clear aj
   try clear p2
   obtain ⟨aa, ab, rfl, rfl, HA, HK1, HB⟩ := hrel
   cases gk with
   | zero => exact absurd HA.out (by simp [pochoirref40_three.l0])
   | succ k1 =>
    have H := HA.out
    clear HA
    simp only [pochoirref40_three.l0] at H
    by_cases c5 : (wrap64 (2 * aa)) ≤ a0
    ·rw [if_pos c5] at H
     have ap : decide ((wrap64 (2 * aa)) ≤ a0) = true := decide_eq_true c5
     clear c5
     have H' := Aside0.mk H
     clear H
     go_wp2
     go_roundg k1
     case measure => have := HK1.out; omega
     case rel => exact ⟨(wrap64 (2 * aa)), (wrap64 (ab + 1)), (by first | rfl | (simp; done) | (simp [*]; done)), (by first | rfl | (simp; done) | (simp [*]; done)), H', ⟨by have := HK1.out; omega⟩, ⟨by exact lB HB.out⟩⟩
    ·rw [if_neg c5] at H
     have ap : decide ((wrap64 (2 * aa)) ≤ a0) = false := decide_eq_false c5
     clear c5
     obtain ⟨aq, ad⟩ : ∃ y_ : List Int, y_ = (([wrap64 (6 * aa), ab, wrap64 ((wrap64 (6 * a0)) - (wrap64 (6 * aa)))] : List Int)) := ⟨_, rfl⟩
     replace H : (some aq) = some r := by first | (rw [ad]; with_reducible exact H) | (have H2_ := (Option.bind_some _ _).symm.trans H; rw [ad]; with_reducible exact H2_) | (have H2_ := (Option.bind_some _ _).symm.trans H; with_reducible exact H2_) | with_reducible exact H | (rw [ad]; exact H) | exact H
     have Ny193 := Aside0.mk ad
     clear ad
     obtain rfl := Option.some.inj H
     go_wp2_with (first | ((with_reducible refine gate_dst (N := 24) rfl ?_); refine Kd.R_lit (Kd.int .i64) _ 3 ?hg (N := 24) ?hd (xs := ([wrap64 (6 * aa), ab, wrap64 ((wrap64 (6 * a0)) - (wrap64 (6 * aa)))] : List Int)) (inner := [.int .i64 (wrap64 (6 * aa)), .int .i64 ab, .int .i64 (wrap64 ((wrap64 (6 * a0)) - (wrap64 (6 * aa))))]) (ok := fun _ => True) (okp := fun _ => True) ?hr ?hp (fun _ hk => hk) trivial (Below.refl _ _) (Nat.le_refl _) (by simp) ?_; (case hd => rfl); (case hg => rfl); (case hr => first | (go_simp; done) | (go_simp; rfl)); (case hp => exact (Reps.one (show Kd.M (Kd.int .i64) _ _ _ (wrap64 (6 * aa)) [.int .i64 (wrap64 (6 * aa))] from rfl) (Reps.one (show Kd.M (Kd.int .i64) _ _ _ ab [.int .i64 ab] from rfl) (Reps.one (show Kd.M (Kd.int .i64) _ _ _ (wrap64 ((wrap64 (6 * a0)) - (wrap64 (6 * aa)))) [.int .i64 (wrap64 ((wrap64 (6 * a0)) - (wrap64 (6 * aa))))] from rfl) (Reps.none _ _))))); intro v194 w6 ah hb hg_ hnew_; clear hg_ hnew_; (first | rw [← Ny193.out] at ah | (simp only [Int.reduceToNat] at ah; rw [← Ny193.out] at ah)); have af := Aside0.mk (Kd.R_lower ah (below_size (by exact lB HB.out))); have ag := Aside0.mk (below_step (by exact lB HB.out) hb); clear HB; have am := af; have HB := ag; clear af ag; clear hb ah))
     go_ret
     exact ⟨_, by first | rfl | (simp [errW_none, errW_some] <;> rfl) | (simp [*, errW_none, errW_some] <;> rfl), by (with_reducible repeat (first | apply Kd.R_alloc | apply Kd.R_drewN | apply Kd.R_drew)); exact am.out, by exact lB HB.out⟩

/-! ### pochoirref07_Put: function 40 -/
def pochoirref07_Put.l0 : Nat → Int → Int → ByteArray → Int → Option (ByteArray)
 | 0, _, _, _, _ => none
 | k + 1, x0, x1, x5, x6 => if x6 < x1 then ((some (([(Int.tmod x0 256) % 256] : List Int) : List Int)).bind fun ab => (if (strOfNums ab).size + x5.size ≤ 9223372036854775807 then (pochoirref07_Put.l0 k ((Int.tdiv x0 256) % 4294967296) x1 ((strOfNums ab) ++ x5) (wrap64 (x6 + 1))) else (none))) else (some x5)
def pochoirref07_Put.f (k : Nat) (a0 : Int) (a1 : Int) : Option (ByteArray) := pochoirref07_Put.l0 k a0 a1 (⟨#[]⟩ : ByteArray) 0
theorem pochoirref07_Put.mono_l : ∀ k, (∀ y0 y1 y2 y3, LeO (pochoirref07_Put.l0 k y0 y1 y2 y3) (pochoirref07_Put.l0 (k + 1) y0 y1 y2 y3))
 | 0 => fun _ _ _ _ r h => by simp [pochoirref07_Put.l0] at h
 | k + 1 => by
  have ih0 := pochoirref07_Put.mono_l k
  ·intro y0 y1 y2 y3
   unfold pochoirref07_Put.l0
   repeat' first
   | (with_reducible exact ih0 _ _ _ _)
   | (with_reducible exact LeO.refl _)
   | (with_reducible exact LeO.none _)
   | (with_reducible refine LeO.ite ?_ ?_)
   | (with_reducible refine LeO.bind ?_ (fun _ => ?_))
   | exact ih0 _ _ _ _
   | exact LeO.none _
   | refine LeO.ite ?_ ?_
   | refine LeO.bind ?_ (fun _ => ?_)
theorem pochoirref07_Put.mono : ∀ a0 a1 k, LeO (pochoirref07_Put.f k a0 a1) (pochoirref07_Put.f (k + 1) a0 a1) := by
 intro a0 a1 k
 have ih0 := pochoirref07_Put.mono_l k
 unfold pochoirref07_Put.f
 repeat' first
   | (with_reducible exact ih0 _ _ _ _)
   | (with_reducible exact LeO.refl _)
   | (with_reducible exact LeO.none _)
   | (with_reducible refine LeO.ite ?_ ?_)
   | (with_reducible refine LeO.bind ?_ (fun _ => ?_))
   | exact ih0 _ _ _ _
   | exact LeO.none _
   | refine LeO.ite ?_ ?_
   | refine LeO.bind ?_ (fun _ => ?_)
set_option maxHeartbeats 8000000 in
set_option maxRecDepth 100000 in
theorem pochoirref07_Put.calls (k : Nat) (a0 : Int) (a1 : Int) (r : ByteArray) (w : World) (h : pochoirref07_Put.f k a0 a1 = some r) :
  Calls Try.prog 40 #[.int .u32 a0, .int .i64 a1] w fun e w' => e = .returned (.string r) ∧ Below w.heap.size w w' := by
 have HB := Aside0.mk (Below.refl w.heap.size w)
 have H : (pochoirref07_Put.l0 k a0 a1 (⟨#[]⟩ : ByteArray) 0) = some r := h
 clear h
 have H' := Aside0.mk H
 clear H
 go_enter Try.func40, Try.ntmps40
 go_wp2
 go_loopg [0, 5, 6] k (fun kq v0 v5 v6 w' => ∃ (aa : Int) (ac : ByteArray) (ad : Int), v0 = .int .u32 aa ∧ v5 = .string ac ∧ v6 = .int .i64 ad ∧ Aside0 (pochoirref07_Put.l0 kq aa a1 ac ad = some r) ∧ Aside0 (kq ≤ k) ∧ Aside0 (Below w.heap.size w w'))
 case atStart => exact ⟨(a0), ((⟨#[]⟩ : ByteArray)), (0), (by first | rfl | (simp; done) | (simp [*]; done)), (by first | rfl | (simp; done) | (simp [*]; done)), (by first | rfl | (simp; done) | (simp [*]; done)), H', ⟨Nat.le_refl _⟩, ⟨by exact lB HB.out⟩⟩
 case round =>
  clear H'
  try clear p2
  obtain ⟨aa, ac, ad, rfl, rfl, rfl, HA, HK1, HB⟩ := hrel
  cases gk with
  | zero => exact absurd HA.out (by simp [pochoirref07_Put.l0])
  | succ k1 =>
   have H := HA.out
   clear HA
   simp only [pochoirref07_Put.l0] at H
   by_cases c3 : ad < a1
   ·rw [if_pos c3] at H
    have ak : decide (ad < a1) = true := decide_eq_true c3
    clear c3
    obtain ⟨ab, ae⟩ : ∃ y_ : List Int, y_ = (([(Int.tmod aa 256) % 256] : List Int)) := ⟨_, rfl⟩
    replace H : (if (strOfNums ab).size + ac.size ≤ 9223372036854775807 then (pochoirref07_Put.l0 k1 ((Int.tdiv aa 256) % 4294967296) a1 ((strOfNums ab) ++ ac) (wrap64 (ad + 1))) else (none)) = some r := by first | (rw [ae]; with_reducible exact H) | (have H2_ := (Option.bind_some _ _).symm.trans H; rw [ae]; with_reducible exact H2_) | (have H2_ := (Option.bind_some _ _).symm.trans H; with_reducible exact H2_) | with_reducible exact H | (rw [ae]; exact H) | exact H
    have Ny196 := Aside0.mk ae
    clear ae
    by_cases c4 : (strOfNums ab).size + ac.size ≤ 9223372036854775807
    ·rw [if_pos c4] at H
     have ao := eq_true c4
     have ap : decide ((strOfNums ab).size + ac.size ≤ 9223372036854775807) = true := decide_eq_true c4
     try have aq : (9223372036854775807 < (strOfNums ab).size + ac.size) = False := eq_false (Nat.not_lt.2 c4)
     have H' := Aside0.mk H
     clear H
     go_wp2_with (first | ((with_reducible refine gate_dst (N := 15) rfl ?_); refine Kd.R_lit (Kd.int .u8) _ 5 ?hg (N := 15) ?hd (xs := ([(Int.tmod aa 256) % 256] : List Int)) (inner := [.int .u8 ((Int.tmod aa 256) % 256)]) (ok := fun _ => True) (okp := fun _ => True) ?hr ?hp (fun _ hk => hk) trivial (Below.refl _ _) (Nat.le_refl _) (by simp) ?_; (case hd => rfl); (case hg => rfl); (case hr => first | (go_simp; done) | (go_simp; rfl)); (case hp => exact (Reps.one (show Kd.M (Kd.int .u8) _ _ _ ((Int.tmod aa 256) % 256) [.int .u8 ((Int.tmod aa 256) % 256)] from rfl) (Reps.none _ _))); intro v197 w5 af hb hg_ hnew_; clear hg_ hnew_; (first | rw [← Ny196.out] at af | (simp only [Int.reduceToNat] at af; rw [← Ny196.out] at af)); have ah := Aside0.mk (Kd.R_lower af (below_size (by exact lB HB.out))); have ai := Aside0.mk (below_step (by exact lB HB.out) hb); clear HB; have ag := ah; have HB := ai; clear ah ai; clear hb af; have ar := own_string (P := Try.prog) Try.underlying48 Try.underlying5 Try.underlying9 (Kd.own_of_R ag.out)))
     go_roundg k1
     case measure => have := HK1.out; omega
     case rel => exact ⟨((Int.tdiv aa 256) % 4294967296), ((strOfNums ab) ++ ac), (wrap64 (ad + 1)), (by first | rfl | (simp; done) | (simp [*]; done)), (by first | rfl | (simp; done) | (simp [*]; done)), (by first | rfl | (simp; done) | (simp [*]; done)), H', ⟨by have := HK1.out; omega⟩, ⟨by exact lB HB.out⟩⟩
    ·rw [if_neg c4] at H
     exact absurd H (by simp)
   ·rw [if_neg c3] at H
    have ak : decide (ad < a1) = false := decide_eq_false c3
    clear c3
    obtain rfl := Option.some.inj H
    go_wp2
    go_ret
    exact ⟨by first | rfl | (simp [errW_none, errW_some] <;> rfl) | (simp [*, errW_none, errW_some] <;> rfl), by exact lB HB.out⟩

/-! ### pochoirref40_p16: function 24 -/
def pochoirref40_p16.f (k : Nat) (a0 : Int) : Option (ByteArray) := (pochoirref07_Put.f k ((IntKind.u16.wrap (a0)) % 4294967296) 2).bind fun aa => (some aa)
theorem pochoirref40_p16.mono : ∀ a0 k, LeO (pochoirref40_p16.f k a0) (pochoirref40_p16.f (k + 1) a0) := by
 intro a0 k
 unfold pochoirref40_p16.f
 repeat' first
   | (with_reducible exact pochoirref07_Put.mono _ _ _)
   | (with_reducible exact LeO.refl _)
   | (with_reducible exact LeO.none _)
   | (with_reducible refine LeO.ite ?_ ?_)
   | (with_reducible refine LeO.bind ?_ (fun _ => ?_))
   | exact pochoirref07_Put.mono _ _ _
   | exact LeO.none _
   | refine LeO.ite ?_ ?_
   | refine LeO.bind ?_ (fun _ => ?_)
set_option maxHeartbeats 8000000 in
set_option maxRecDepth 100000 in
theorem pochoirref40_p16.calls (k : Nat) (a0 : Int) (r : ByteArray) (w : World) (h : pochoirref40_p16.f k a0 = some r) :
  Calls Try.prog 24 #[.int .i64 a0] w fun e w' => e = .returned (.string r) ∧ Below w.heap.size w w' := by
 have HB := Aside0.mk (Below.refl w.heap.size w)
 have H : ((pochoirref07_Put.f k ((IntKind.u16.wrap (a0)) % 4294967296) 2).bind fun aa => (some aa)) = some r := h
 clear h
 replace H := Option.bind_eq_some_iff.mp H
 obtain ⟨aa, A20, H⟩ := H
 replace H : (some aa) = some r := H
 have A2 := Aside0.mk A20
 clear A20
 obtain rfl := Option.some.inj H
 go_enter Try.func24, Try.ntmps24
 go_wp2_with (first | ((with_reducible refine gate_callee (f := 40) rfl ?_); refine goesL_ (some 6) rfl rfl Try.func40 (by kernel_rfl) rfl #[.int .u32 ((IntKind.u16.wrap (a0)) % 4294967296), .int .i64 2] rfl (by (try simp only [List.map_toArray, List.map_cons, List.map_nil]); first | done | rfl | (simp only [List.length_drop, List.length_take]; rfl)) ?_; (with_reducible refine (pochoirref07_Put.calls k ((IntKind.u16.wrap (a0)) % 4294967296) 2 aa _ A2.out).mono ?_); rintro e w3 ⟨rfl, hb⟩; refine ⟨_, rfl, ?_⟩; have ab := Aside0.mk (below_step (by exact lB HB.out) hb); clear HB; have HB := ab; clear ab; (try clear hb); (try clear ac); (try clear hk); (try clear hi)))
 go_ret
 exact ⟨by first | rfl | (simp [errW_none, errW_some] <;> rfl) | (simp [*, errW_none, errW_some] <;> rfl), by exact lB HB.out⟩

end Go.Proofs.Ythnojbbfmcapnaa.Pr
