/- Pure: the binary greatest common divisor over two words, as the program reckons it, is the greatest common divisor. -/
import Derived.Test.YtjcgmjhcaaaieaaDoorPr16
import Derived.Test.YtjcgmjhcaaaieaaDoorPr17
import Derived.Test.YtjcgmjhcaaaieaaDoorPr18
import Derived.Test.YtjcgmjhcaaaieaaDoorPr19
import Derived.Test.YtjcgmjhcaaaieaaDoorPr20
import Derived.Test.YtjcgmjhcaaaieaaDoorPr21
import Derived.Test.YtjcgmjhcaaaieaaDoorPr22
import Derived.Test.YtjcgmjhcaaaieaaDoorPr23
import Derived.Test.YtjcgmjhcaaaieaaDoorPr24
import Derived.Test.YtjcgmjhcaaaieaaDoorPr25
import Derived.Test.YtjcgmjhcaaaieaaDoorPr30
import Derived.Laws.Bits64b
namespace Go.Proofs.YtjcgmjhcaaaieaaDoor.Pure
set_option linter.unusedVariables false
set_option linter.unusedSimpArgs false
open Go.RowKit Go.Proofs.YtjcgmjhcaaaieaaDoor.Pr
open Go.Proofs.YtjcgmjhcaaaieaaDoorW.PrintWords Go.Proofs.YtjcgmjhcaaaieaaDoorW.PrintLast Go.Proofs.YtjcgmjhcaaaieaaDoorW.PrintMore

/-- More rounds tell the same. -/
theorem up {α : Type} {f : Nat → Option α} (h : ∀ k, LeO (f k) (f (k + 1))) {k k' : Nat} {r : α} (e : f k = some r) (hk : k ≤ k') : f k' = some r := by
  induction hk with
  | refl => exact e
  | step _ ih => exact h _ _ ih

/-! ## Twos -/
theorem odd_part (x : Nat) (h0 : x ≠ 0) (h : x < 18446744073709551616) : ∃ m, m % 2 = 1 ∧ x = 2 ^ Lib.ctz 64 x * m ∧ Lib.ctz 64 x < 64 := by
  have : Lib.ctz 64 x = Lib.ctzFrom 64 x := by unfold Lib.ctz; rw [if_neg h0]
  rw [this]
  obtain ⟨m, hm, hk⟩ := Lib.ctzFrom_spec 64 x (by omega) h
  exact ⟨2 * m + 1, by omega, hm, hk⟩
theorem coprime_two {m : Nat} (h : m % 2 = 1) (n : Nat) : Nat.Coprime (2 ^ n) m := by
  apply Nat.Coprime.pow_left
  show Nat.gcd 2 m = 1
  rw [Nat.gcd_rec, h]
  rfl
theorem gcd_drop {a : Nat} (ha : a % 2 = 1) (k m : Nat) : Nat.gcd a (2 ^ k * m) = Nat.gcd a m := Nat.Coprime.gcd_mul_left_cancel_right m (coprime_two ha k)
theorem gcd_twos {m n : Nat} (hm : m % 2 = 1) (hn : n % 2 = 1) (i j : Nat) : Nat.gcd (2 ^ i * m) (2 ^ j * n) = 2 ^ min i j * Nat.gcd m n := by
  rcases Nat.le_total i j with h | h
  · rw [Nat.min_eq_left h, show j = i + (j - i) by omega, Nat.pow_add, Nat.mul_assoc, Nat.gcd_mul_left, gcd_drop hm]
  · rw [Nat.min_eq_right h, show i = j + (i - j) by omega, Nat.pow_add, Nat.mul_assoc, Nat.gcd_mul_left, Nat.gcd_comm, gcd_drop hn, Nat.gcd_comm]

/-! ## Words -/
theorem twos_of (x : Nat) (h0 : x ≠ 0) (h : x < 18446744073709551616) : ratio_twos.f 0 x = some (Lib.ctz 64 x : Int) := by
  unfold ratio_twos.f bits_TrailingZeros64.f
  rw [if_neg (by omega), if_pos (by omega), Int.toNat_natCast]
  rfl
theorem right_of (x n : Nat) (hn : n < 64) (h : x < 18446744073709551616) : wide_right.f 0 x n = some (0, ((x / 2 ^ n : Nat) : Int)) := by
  unfold wide_right.f
  rw [if_neg (by omega), if_pos (by omega), if_pos (by rw [IntKind.wrap_u64]; omega)]
  have e1 : shr .u64 (0 : Int) n = 0 := by unfold shr; simp
  have e2 : shr .u64 (x : Int) n = ((x / 2 ^ n : Nat) : Int) := by
    unfold shr
    rw [Int.toNat_natCast, Nat.min_eq_left (by show n ≤ 64; omega)]
    norm_cast
  have e3 : shl .u64 (0 : Int) (IntKind.u64.wrap (64 - (n : Int))) = 0 := by unfold shl; simp [IntKind.wrap_u64]
  rw [e1, e2, e3]
  have := bits_or_u64_nat (x / 2 ^ n) 0 (Nat.lt_of_le_of_lt (Nat.div_le_self _ _) h) (by omega)
  rw [Nat.or_zero] at this
  rw [show (0 : Int) = ((0 : Nat) : Int) from rfl, this]
theorem bitLen_le (f : Nat) : ∀ x, Lib.bitLenAux f x ≤ f := by
  induction f with
  | zero => intro x; simp [Lib.bitLenAux]
  | succ f ih =>
    intro x
    simp only [Lib.bitLenAux]
    split
    · omega
    · have := ih (x / 2); omega
theorem left_of (x n : Nat) (hn : n < 64) (h : x * 2 ^ n < 18446744073709551616) : wide_left.f 0 x n = some (0, ((x * 2 ^ n : Nat) : Int)) := by
  have hp : 0 < 2 ^ n := Nat.two_pow_pos n
  have hx : x < 18446744073709551616 := Nat.lt_of_le_of_lt (Nat.le_mul_of_pos_right _ hp) h
  unfold wide_left.f
  have w1 : IntKind.u64.wrap (64 - (n : Int)) = ((64 - n : Nat) : Int) := by rw [IntKind.wrap_u64]; omega
  rw [if_neg (by omega), if_pos (by omega), w1, if_pos (by omega)]
  have e1 : shl .u64 (0 : Int) n = 0 := by unfold shl; simp [IntKind.wrap_u64]
  have e2 : shl .u64 (x : Int) n = ((x * 2 ^ n : Nat) : Int) := by
    unfold shl
    rw [Int.toNat_natCast, Nat.min_eq_left (by show n ≤ 64; omega), IntKind.wrap_u64]
    have : (x : Int) * 2 ^ n = ((x * 2 ^ n : Nat) : Int) := by norm_cast
    rw [this]
    omega
  have e3 : shr .u64 (x : Int) ((64 - n : Nat) : Int) = 0 := by
    unfold shr
    rw [Int.toNat_natCast, Nat.min_eq_left (by show 64 - n ≤ 64; omega)]
    have : x / 2 ^ (64 - n) = 0 := by
      apply Nat.div_eq_of_lt
      have e : 2 ^ (64 - n) * 2 ^ n = 18446744073709551616 := by rw [← Nat.pow_add, show 64 - n + n = 64 by omega]
      exact Nat.lt_of_mul_lt_mul_right (by rw [e]; exact h)
    have e : (x : Int) / 2 ^ (64 - n) = ((x / 2 ^ (64 - n) : Nat) : Int) := by norm_cast
    rw [e, this]
    rfl
  rw [e1, e2, e3]
  have := bits_or_u64_nat 0 0 (by omega) (by omega)
  rw [show (0 : Int) = ((0 : Nat) : Int) from rfl, this]
  rfl
theorem shift_right (k x n : Nat) (hn : n < 64) (h : x < 18446744073709551616) : wide_Shift.f (k + 1) 0 x (wrap64 (-(n : Int))) = if x = 0 ∨ n = 0 then wide_Shift.f (k + 1) 0 x (wrap64 (-(n : Int))) else some (0, ((x / 2 ^ n : Nat) : Int), 0) := by
  split
  · rfl
  · rename_i hh
    have w1 : wrap64 (-(n : Int)) = -(n : Int) := by unfold wrap64; omega
    have w2 : IntKind.u64.wrap (wrap64 (-(-(n : Int)))) = (n : Int) := by rw [IntKind.wrap_u64]; unfold wrap64; omega
    rw [w1]
    unfold wide_Shift.f
    rw [if_neg (by simp; omega), decide_eq_false (by omega)]
    simp only [wide_Shift.j0]
    rw [if_neg (by decide), if_pos (by omega), w2, right_of x n hn h]
    rfl
theorem shift_left (k x n : Nat) (hn : n < 64) (h0 : x ≠ 0) (h : x * 2 ^ n < 18446744073709551616) : wide_Shift.f (k + 1) 0 x n = some (0, ((x * 2 ^ n : Nat) : Int), 0) := by
  have hp : 0 < 2 ^ n := Nat.two_pow_pos n
  have hx : x < 18446744073709551616 := Nat.lt_of_le_of_lt (Nat.le_mul_of_pos_right _ hp) h
  have hb := bitLen_le 64 x
  unfold wide_Shift.f
  rw [if_neg (by simp; omega), decide_eq_false (by omega)]
  simp only [wide_Shift.j0]
  have w2 : IntKind.u64.wrap (n : Int) = (n : Int) := by rw [IntKind.wrap_u64]; omega
  rw [if_neg (by decide), if_neg (by omega), w2]
  have e : wide_Bits.f 0 x = some (Lib.bitLen x : Int) := by
    unfold wide_Bits.f bits_Len64.f
    rw [if_pos rfl, if_pos (by omega), Int.toNat_natCast]
    rfl
  have w3 : wrap64 (128 - (Lib.bitLen x : Int)) = 128 - (Lib.bitLen x : Int) := by unfold Lib.bitLen wrap64; omega
  rw [e, Option.bind_some, w3, if_neg (by unfold Lib.bitLen; omega), left_of x n hn h]
  rfl
/-- By as many places as it has twos. -/
theorem shift_twos (k x : Nat) (h0 : x ≠ 0) (h : x < 18446744073709551616) : wide_Shift.f (k + 1) 0 x (wrap64 (-(Lib.ctz 64 x : Int))) = some (0, ((x / 2 ^ Lib.ctz 64 x : Nat) : Int), 0) := by
  obtain ⟨m, hm, hx, hk⟩ := odd_part x h0 h
  by_cases hz : Lib.ctz 64 x = 0
  · rw [hz]
    have := shift_left k x 0 (by omega) h0 (by simpa using h)
    have w : wrap64 (-((0 : Nat) : Int)) = ((0 : Nat) : Int) := by simp [wrap64]
    rw [w, this]
    simp
  · rw [shift_right k x _ hk h, if_neg (by omega)]
theorem cmp_of (k a b : Nat) : wide_Cmp.f (k + 3) 0 a 0 b = some (if a < b then -1 else if a > b then 1 else 0) := by
  have c0 : cmp_Compare_uint64.f 0 0 = some 0 := by decide
  have c1 : cmp_Compare_uint64.f a b = some (if a < b then -1 else if a > b then 1 else 0) := by
    unfold cmp_Compare_uint64.f cmp_isNaN_uint64.f
    simp only [bne_self_eq_false, Option.bind_some, Bool.false_eq_true, if_false]
    by_cases h1 : a < b
    · rw [if_pos (by omega), if_pos h1]
    · rw [if_neg (by omega), if_neg h1]
      by_cases h2 : a > b
      · rw [if_pos (by omega), if_pos h2]
      · rw [if_neg (by omega), if_neg h2]
  unfold wide_Cmp.f
  rw [c0, Option.bind_some, c1, Option.bind_some]
  generalize (if a < b then (-1 : Int) else if a > b then 1 else 0) = t
  unfold cmp_Or_int.f
  have w0 : wrap64 (1 : Int) = 1 := by simp [wrap64]
  have w1 : wrap64 (2 : Int) = 2 := by simp [wrap64]
  simp only [cmp_Or_int.l0, rd, List.length_cons, List.length_nil]
  by_cases ht : t = 0
  · subst ht
    simp [w0, w1]
  · simp [w0, w1, ht]
theorem sub_of (a b : Nat) (h : b ≤ a) (ha : a < 18446744073709551616) : wide_Sub.f 0 a 0 b = some (0, ((a - b : Nat) : Int), 0) := by
  unfold wide_Sub.f bits_Sub64.f
  rw [if_pos (by omega), Option.bind_some]
  have e1 : (if (a : Int) < (b : Int) + 0 then (1 : Int) else 0) = 0 := if_neg (by omega)
  simp only [e1]
  rw [if_pos (by omega), Option.bind_some]
  have e2 : (if (0 : Int) < 0 + 0 then (1 : Int) else 0) = 0 := by simp
  simp only [e2]
  rw [if_pos trivial]
  clear e1 e2
  have e3 : ((a : Int) - b - 0) % 18446744073709551616 = ((a - b : Nat) : Int) := by omega
  rw [e3]
  rfl

/-! ## The loop -/
theorem loop_ok (g c : Nat) (hc : c < 64) : ∀ (n a b : Nat), a + b ≤ n → a % 2 = 1 → a < 18446744073709551616 → b < 18446744073709551616 → Nat.gcd a b = g → g * 2 ^ c < 18446744073709551616 → ∃ k, ratio_common.l0 k c 0 a 0 b = some (0, ((g * 2 ^ c : Nat) : Int)) := by
  intro n
  induction n with
  | zero => intro a b h1 h2; omega
  | succ n ih =>
    intro a b h1 h2 ha hb hg hs
    by_cases hb0 : b = 0
    · subst hb0
      rw [Nat.gcd_zero_right] at hg
      subst hg
      refine ⟨2, ?_⟩
      simp only [ratio_common.l0]
      rw [if_neg (by simp), shift_left 0 a c hc (by omega) hs]
      rfl
    · obtain ⟨m, hm, hx, hk⟩ := odd_part b hb0 hb
      have hp : 0 < 2 ^ Lib.ctz 64 b := Nat.two_pow_pos _
      have hdiv : b / 2 ^ Lib.ctz 64 b = m := by
        conv => lhs; lhs; rw [hx]
        exact Nat.mul_div_cancel_left _ hp
      have hmb : m ≤ b := by rw [hx]; exact Nat.le_mul_of_pos_left _ hp
      have hgm : Nat.gcd a m = g := by rw [← hg]; conv => rhs; rw [hx]
                                       exact (gcd_drop h2 _ _).symm
      have step : ∀ k, ratio_common.l0 (k + 4) c 0 a 0 b = if a > m then ratio_common.l0 (k + 3) c 0 m 0 ((a - m : Nat) : Int) else ratio_common.l0 (k + 3) c 0 a 0 ((m - a : Nat) : Int) := by
        intro k
        conv => lhs; unfold ratio_common.l0
        rw [if_pos (by simp; omega), twos_of b hb0 hb, Option.bind_some, shift_twos (k + 2) b hb0 hb, Option.bind_some, hdiv]
        simp only []
        rw [cmp_of k a m, Option.bind_some]
        by_cases hlt : a > m
        · rw [if_neg (show ¬ a < m by omega), if_pos hlt, if_pos (by decide), if_pos hlt, sub_of a m (by omega) ha]
          rfl
        · rw [if_neg hlt, if_neg (by split <;> decide), if_neg hlt, sub_of m a (by omega) (by omega)]
          rfl
      by_cases hlt : a > m
      · obtain ⟨k, hk⟩ := ih m (a - m) (by omega) hm (by omega) (by omega) (by rw [Nat.gcd_sub_self_right (by omega), Nat.gcd_comm]; exact hgm) hs
        exact ⟨k + 4, by rw [step k, if_pos hlt]; exact up (fun k => (ratio_common.mono_l k) _ _ _ _ _) hk (by omega)⟩
      · obtain ⟨k, hk⟩ := ih a (m - a) (by omega) h2 ha (by omega) (by rw [Nat.gcd_sub_self_right (by omega)]; exact hgm) hs
        exact ⟨k + 4, by rw [step k, if_neg hlt]; exact up (fun k => (ratio_common.mono_l k) _ _ _ _ _) hk (by omega)⟩
theorem common_ok (x y : Nat) (hx : x < 18446744073709551616) (hy : y < 18446744073709551616) : ∃ k, ratio_common.f k 0 x 0 y = some (0, ((Nat.gcd x y : Nat) : Int)) := by
  by_cases hx0 : x = 0
  · subst hx0
    exact ⟨0, by unfold ratio_common.f; rw [if_pos (by simp), Nat.gcd_zero_left]⟩
  by_cases hy0 : y = 0
  · subst hy0
    exact ⟨0, by unfold ratio_common.f; rw [if_neg (by simp; omega), if_pos (by simp), Nat.gcd_zero_right]⟩
  obtain ⟨m, hm, ex, hk⟩ := odd_part x hx0 hx
  obtain ⟨n, hn, ey, hk'⟩ := odd_part y hy0 hy
  have hp : 0 < 2 ^ Lib.ctz 64 x := Nat.two_pow_pos _
  have hdiv : x / 2 ^ Lib.ctz 64 x = m := by
    conv => lhs; lhs; rw [ex]
    exact Nat.mul_div_cancel_left _ hp
  have hmx : m ≤ x := by rw [ex]; exact Nat.le_mul_of_pos_left _ hp
  have hG : Nat.gcd x y = Nat.gcd m n * 2 ^ min (Lib.ctz 64 x) (Lib.ctz 64 y) := by
    conv => lhs; rw [ex, ey]
    rw [gcd_twos hm hn, Nat.mul_comm]
  have hle : Nat.gcd x y ≤ x := Nat.gcd_le_left _ (by omega)
  have hgy : Nat.gcd m y = Nat.gcd m n := by
    conv => lhs; rw [ey]
    exact gcd_drop hm _ _
  obtain ⟨k, hl⟩ := loop_ok (Nat.gcd m n) (min (Lib.ctz 64 x) (Lib.ctz 64 y)) (by omega) (m + y) m y (Nat.le_refl _) hm (by omega) hy hgy (by rw [← hG]; omega)
  refine ⟨k + 1, ?_⟩
  unfold ratio_common.f
  rw [if_neg (by simp; omega), if_neg (by simp; omega), twos_of x hx0 hx, Option.bind_some, twos_of y hy0 hy, Option.bind_some, Option.bind_some, shift_twos k x hx0 hx, Option.bind_some, hdiv]
  simp only []
  have hmn : mn (Lib.ctz 64 x : Int) (Lib.ctz 64 y : Int) = ((min (Lib.ctz 64 x) (Lib.ctz 64 y) : Nat) : Int) := by unfold mn; split <;> omega
  rw [hmn, hG]
  exact up (fun k => (ratio_common.mono_l k) _ _ _ _ _) hl (by omega)
/-! ## The reference's -/
theorem ref_common_ok : ∀ (y x : Nat), ∃ k, pochoirref03_common.f k x y = some ((Nat.gcd x y : Nat) : Int) := by
  intro y
  induction y using Nat.strongRecOn with
  | _ y ih =>
    intro x
    by_cases hy : y = 0
    · subst hy
      exact ⟨1, by unfold pochoirref03_common.f; simp [pochoirref03_common.l0]⟩
    · obtain ⟨k, hk⟩ := ih (x % y) (Nat.mod_lt _ (by omega)) y
      refine ⟨k + 1, ?_⟩
      unfold pochoirref03_common.f at hk ⊢
      simp only [pochoirref03_common.l0]
      have e : Int.tmod (x : Int) (y : Int) = ((x % y : Nat) : Int) := by rw [Int.tmod_eq_emod_of_nonneg (by omega)]; norm_cast
      rw [if_pos (by omega), if_neg (by omega), e, hk, Nat.gcd_comm, ← Nat.gcd_rec, Nat.gcd_comm]
end Go.Proofs.YtjcgmjhcaaaieaaDoor.Pure
