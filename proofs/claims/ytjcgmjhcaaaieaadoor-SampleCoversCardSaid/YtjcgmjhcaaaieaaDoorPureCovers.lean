/- Pure: what SampleCovers reckons is true. -/
import Derived.Test.YtjcgmjhcaaaieaaDoorPr25
import Derived.Test.YtjcgmjhcaaaieaaDoorPr26
import Derived.Test.YtjcgmjhcaaaieaaDoorPr27
import Derived.Test.YtjcgmjhcaaaieaaDoorPr28
import Derived.Test.YtjcgmjhcaaaieaaDoorPr29
import Derived.Test.YtjcgmjhcaaaieaaDoorPr30
import Derived.Test.YtjcgmjhcaaaieaaDoorPr31
import Derived.Test.YtjcgmjhcaaaieaaDoorPr32
import Derived.Test.YtjcgmjhcaaaieaaDoorGcd
namespace Go.Proofs.YtjcgmjhcaaaieaaDoor.Pure
set_option linter.unusedVariables false
set_option linter.unusedSimpArgs false
open Go.RowKit Go.Proofs.YtjcgmjhcaaaieaaDoor.Pr
open Go.Proofs.YtjcgmjhcaaaieaaDoorW.PrintWords Go.Proofs.YtjcgmjhcaaaieaaDoorW.PrintLast Go.Proofs.YtjcgmjhcaaaieaaDoorW.PrintMore
set_option maxRecDepth 100000 in
theorem awake : ∃ k, pochoirlaw32_awake.f k = some true := ⟨40, by decide +kernel⟩
theorem size_of (n : Int) (h : (Lit.int .i64 n).wf = true) : ∃ s : Nat, s < 18446744073709551616 ∧ ratio_size.f n = some (s : Int) ∧ pochoirref03_size.f n = some (s : Int) := by
  have e0 : IntKind.i64.min = -9223372036854775808 := by decide
  have hr : -9223372036854775808 ≤ n ∧ n ≤ 9223372036854775807 := by simpa [Lit.wf, e0] using h
  unfold ratio_size.f pochoirref03_size.f
  by_cases hn : n < 0
  · refine ⟨(-n).toNat, by omega, ?_, ?_⟩ <;>
    · rw [if_pos hn]
      congr 1
      simp only [IntKind.wrap_u64]
      omega
  · refine ⟨n.toNat, by omega, ?_, ?_⟩ <;>
    · rw [if_neg hn]
      congr 1
      simp only [IntKind.wrap_u64]
      omega
/-- Both say the same of a fraction. -/
theorem may_of (n d : Int) (hn : (Lit.int .i64 n).wf = true) (hd : (Lit.int .i64 d).wf = true) : ∃ k b, ratio_May.f k n d = some b ∧ pochoirref03_May.f k n d = some b ∧ (b = true → 0 < d) := by
  by_cases h0 : d > 0
  · obtain ⟨x, hx, ex, ex'⟩ := size_of n hn
    obtain ⟨y, hy, ey, ey'⟩ := size_of d hd
    obtain ⟨k, hk⟩ := common_ok x y hx hy
    obtain ⟨k', hk'⟩ := ref_common_ok y x
    refine ⟨k + k', decide (Nat.gcd x y = 1), ?_, ?_, fun _ => h0⟩
    · unfold ratio_May.f wide_Of.f
      rw [if_pos h0, ex, Option.bind_some, Option.bind_some, ey, Option.bind_some, Option.bind_some]
      simp only []
      rw [up (fun k => ratio_common.mono _ _ _ _ k) hk (by omega : k ≤ k + k'), Option.bind_some]
      congr 1
      rw [Bool.eq_iff_iff]
      simp
      omega
    · unfold pochoirref03_May.f
      rw [if_pos h0, ex', Option.bind_some, ey', Option.bind_some, up (fun k => pochoirref03_common.mono _ _ k) hk' (by omega : k' ≤ k + k'), Option.bind_some]
      congr 1
      rw [Bool.eq_iff_iff]
      simp
      omega
  · exact ⟨0, false, by unfold ratio_May.f; rw [if_neg h0], by unfold pochoirref03_May.f; rw [if_neg h0], fun h => by cases h⟩
/-- What is reckoned of the parts. -/
def top (n reach p d : Int) : Int := 8355840 * d + (2 * (mn (mx n 0) 16711680) - 16711680) * reach * p
def cov (n reach p d : Int) : Int := if top n reach p d < 0 then 0 else mn (top n reach p d / (65536 * d)) 255
theorem clamp (n : Int) : 0 ≤ mn (mx n 0) 16711680 ∧ mn (mx n 0) 16711680 ≤ 16711680 := by
  unfold mn mx
  split <;> split <;> omega
theorem prod_bound (a r p : Int) (ha : -16711680 ≤ a) (ha' : a ≤ 16711680) (hr : 1 ≤ r) (hr' : r ≤ 16) (hp : 0 < p) (hp' : p ≤ 1073741824) : -267386880 ≤ a * r ∧ a * r ≤ 267386880 ∧ -287104476244869120 ≤ a * r * p ∧ a * r * p ≤ 287104476244869120 := by
  have h1 : a * r ≤ 16711680 * 16 := by
    rcases Int.le_total 0 a with h | h
    · exact Int.mul_le_mul ha' hr' (by omega) (by omega)
    · have : a * r ≤ 0 := Int.mul_nonpos_of_nonpos_of_nonneg h (by omega)
      omega
  have h2 : -(16711680 * 16) ≤ a * r := by
    rcases Int.le_total 0 a with h | h
    · have : 0 ≤ a * r := Int.mul_nonneg h (by omega)
      omega
    · have : (-a) * r ≤ 16711680 * 16 := Int.mul_le_mul (by omega) hr' (by omega) (by omega)
      rw [Int.neg_mul] at this
      omega
  have h3 : a * r * p ≤ 267386880 * 1073741824 := by
    rcases Int.le_total 0 (a * r) with h | h
    · exact Int.mul_le_mul (by omega) hp' (by omega) (by omega)
    · have : a * r * p ≤ 0 := Int.mul_nonpos_of_nonpos_of_nonneg h (by omega)
      omega
  have h4 : -(267386880 * 1073741824) ≤ a * r * p := by
    rcases Int.le_total 0 (a * r) with h | h
    · have : 0 ≤ a * r * p := Int.mul_nonneg h (by omega)
      omega
    · have : (-(a * r)) * p ≤ 267386880 * 1073741824 := Int.mul_le_mul (by omega) hp' (by omega) (by omega)
      rw [Int.neg_mul] at this
      omega
  omega
theorem wrap_id {n : Int} (h1 : -9223372036854775808 ≤ n) (h2 : n ≤ 9223372036854775807) : wrap64 n = n := by unfold wrap64; omega
theorem cov_j0 (k : Nat) (n reach p d : Int) (hr : 1 ≤ reach) (hr' : reach ≤ 16) (hp : 0 < p) (hp' : p ≤ 1073741824) (hd : 0 < d) (hd' : d ≤ 1073741824) : sample_Cover.j0 (k + 1) n reach false p d = some (cov n reach p d, 0) := by
  obtain ⟨c1, c2⟩ := clamp n
  obtain ⟨b1, b2, b3, b4⟩ := prod_bound (2 * (mn (mx n 0) 16711680) - 16711680) reach p (by omega) (by omega) hr hr' hp hp'
  simp only [sample_Cover.j0]
  have w1 : wrap64 (65536 * d) = 65536 * d := wrap_id (by omega) (by omega)
  have w2 : wrap64 (255 * (65536 * d)) = 255 * (65536 * d) := wrap_id (by omega) (by omega)
  have w3 : Int.tdiv (255 * (65536 * d)) 2 = 8355840 * d := by rw [Int.tdiv_eq_ediv_of_nonneg (by omega)]; omega
  rw [if_neg (by decide), w1, w2, w3, wrap_id (n := 8355840 * d) (by omega) (by omega), wrap_id (n := (2 * (mn (mx n 0) 16711680) - 16711680) * reach) (by omega) (by omega), wrap_id (n := (2 * (mn (mx n 0) 16711680) - 16711680) * reach * p) (by omega) (by omega), wrap_id (n := 8355840 * d + (2 * (mn (mx n 0) 16711680) - 16711680) * reach * p) (by omega) (by omega)]
  unfold cov
  show (if top n reach p d < 0 then _ else _) = _
  have ht : top n reach p d = 8355840 * d + (2 * (mn (mx n 0) 16711680) - 16711680) * reach * p := rfl
  by_cases h : top n reach p d < 0
  · rw [if_pos h, if_pos h]
  · rw [if_neg h, if_neg h, if_neg (by omega), ← ht]
    have q0 : 0 ≤ top n reach p d / (65536 * d) := Int.ediv_nonneg (by omega) (by omega)
    have q1 : top n reach p d / (65536 * d) ≤ top n reach p d := Int.ediv_le_self _ (by omega)
    rw [Int.tdiv_eq_ediv_of_nonneg (by omega), wrap_id (by omega) (by omega)]
    have : mn (top n reach p d / (65536 * d)) 255 % 256 = mn (top n reach p d / (65536 * d)) 255 := by unfold mn; split <;> omega
    rw [this]
theorem cov_range (n reach p d : Int) (hd : 0 < d) : 0 ≤ cov n reach p d ∧ cov n reach p d ≤ 255 := by
  unfold cov
  split
  · omega
  · have q0 : 0 ≤ top n reach p d / (65536 * d) := Int.ediv_nonneg (by omega) (by omega)
    unfold mn
    split <;> omega
theorem ref_floor (n reach p d : Int) (hr : 1 ≤ reach) (hr' : reach ≤ 16) (hp : 0 < p) (hp' : p ≤ 1073741824) (hd : 0 < d) (hd' : d ≤ 1073741824) :
    ∃ q, pochoirref03_Floor.f (wrap64 ((wrap64 (8355840 * d)) + (wrap64 ((wrap64 (((2 * (mn (mx n 0) 16711680)) - 16711680) * reach)) * p)))) (wrap64 (65536 * d)) = some q ∧ mn (mx q 0) 255 = cov n reach p d := by
  obtain ⟨c1, c2⟩ := clamp n
  obtain ⟨b1, b2, b3, b4⟩ := prod_bound (2 * (mn (mx n 0) 16711680) - 16711680) reach p (by omega) (by omega) hr hr' hp hp'
  have w1 : wrap64 (65536 * d) = 65536 * d := wrap_id (by omega) (by omega)
  rw [w1, wrap_id (n := 8355840 * d) (by omega) (by omega), wrap_id (n := (2 * (mn (mx n 0) 16711680) - 16711680) * reach) (by omega) (by omega), wrap_id (n := (2 * (mn (mx n 0) 16711680) - 16711680) * reach * p) (by omega) (by omega), wrap_id (n := 8355840 * d + (2 * (mn (mx n 0) 16711680) - 16711680) * reach * p) (by omega) (by omega)]
  have ht : 8355840 * d + (2 * (mn (mx n 0) 16711680) - 16711680) * reach * p = top n reach p d := rfl
  rw [ht]
  have t1 : -300000000000000000 ≤ top n reach p d := by rw [← ht]; omega
  have t2 : top n reach p d ≤ 9000000000000000000 := by rw [← ht]; omega
  unfold pochoirref03_Floor.f
  rw [if_neg (by omega)]
  by_cases h : top n reach p d < 0
  · have hc : cov n reach p d = 0 := by unfold cov; rw [if_pos h]
    rw [hc]
    obtain ⟨m, hm⟩ : ∃ m : Int, m = - top n reach p d := ⟨_, rfl⟩
    have e1 : Int.tdiv (top n reach p d) (65536 * d) = -(m / (65536 * d)) := by rw [show top n reach p d = -m by omega, Int.neg_tdiv, Int.tdiv_eq_ediv_of_nonneg (by omega)]
    have e2 : Int.tmod (top n reach p d) (65536 * d) = -(m % (65536 * d)) := by rw [show top n reach p d = -m by omega, Int.neg_tmod, Int.tmod_eq_emod_of_nonneg (by omega)]
    have q0 : 0 ≤ m / (65536 * d) := Int.ediv_nonneg (by omega) (by omega)
    have q1 : m / (65536 * d) ≤ m := Int.ediv_le_self _ (by omega)
    rw [e1, e2, wrap_id (n := -(m / (65536 * d))) (by omega) (by omega), wrap_id (n := -(m / (65536 * d)) - 1) (by omega) (by omega)]
    split
    · exact ⟨_, rfl, by unfold mn mx; split <;> split <;> omega⟩
    · exact ⟨_, rfl, by unfold mn mx; split <;> split <;> omega⟩
  · have e2 : 0 ≤ Int.tmod (top n reach p d) (65536 * d) := Int.tmod_nonneg _ (by omega)
    have q0 : 0 ≤ top n reach p d / (65536 * d) := Int.ediv_nonneg (by omega) (by omega)
    have q1 : top n reach p d / (65536 * d) ≤ top n reach p d := Int.ediv_le_self _ (by omega)
    rw [if_neg (by omega), Int.tdiv_eq_ediv_of_nonneg (by omega), wrap_id (by omega) (by omega)]
    refine ⟨_, rfl, ?_⟩
    unfold cov
    rw [if_neg h]
    unfold mn mx
    repeat' split
    all_goals omega
theorem cov_mono (n m reach p d : Int) (h : n ≤ m) (hr : 1 ≤ reach) (hp : 0 < p) (hd : 0 < d) : cov n reach p d ≤ cov m reach p d := by
  have hc : mn (mx n 0) 16711680 ≤ mn (mx m 0) 16711680 := by
    unfold mn mx
    repeat' split
    all_goals omega
  have ht : top n reach p d ≤ top m reach p d := by
    unfold top
    have h1 : (2 * (mn (mx n 0) 16711680) - 16711680) * reach ≤ (2 * (mn (mx m 0) 16711680) - 16711680) * reach := Int.mul_le_mul_of_nonneg_right (by omega) (by omega)
    have h2 := Int.mul_le_mul_of_nonneg_right h1 (show 0 ≤ p by omega)
    omega
  have hq : top n reach p d / (65536 * d) ≤ top m reach p d / (65536 * d) := Int.ediv_le_ediv (by omega) ht
  unfold cov
  by_cases h1 : top n reach p d < 0
  · rw [if_pos h1]
    exact (cov_range m reach p d hd).1
  · rw [if_neg h1, if_neg (by omega)]
    unfold mn
    split <;> split <;> omega
/-- Both covers. -/
theorem covers (n m reach p d : Int) (hp : (Lit.int .i64 p).wf = true) (hd : (Lit.int .i64 d).wf = true) :
    ∃ k a b e, sample_Cover.f k n reach p d = some (a, e) ∧ pochoirref32_Cover.f k n reach p d = some (a, e) ∧ sample_Cover.f k m reach p d = some (b, e) ∧ 0 ≤ a ∧ a ≤ 255 ∧ (n ≤ m → a ≤ b) := by
  obtain ⟨k, b, m1, m2, hb⟩ := may_of p d hp hd
  have m1 := up (fun k => ratio_May.mono _ _ k) m1 (Nat.le_succ k)
  have m2 := up (fun k => pochoirref03_May.mono _ _ k) m2 (Nat.le_succ k)
  have err : ∀ n, sample_Cover.j0 (k + 1) n reach true p d = some (0, 1) := fun n => by simp [sample_Cover.j0]
  refine ⟨k + 1, ?_⟩
  unfold sample_Cover.f pochoirref32_Cover.f
  by_cases h1 : reach < 1
  · rw [if_pos h1, if_pos h1, if_pos h1, err, err]
    exact ⟨0, 0, 1, rfl, rfl, rfl, by omega, by omega, fun _ => by omega⟩
  rw [if_neg h1, if_neg h1, if_neg h1]
  by_cases h2 : reach > 16
  · rw [if_pos h2, if_pos h2, if_pos h2, err, err]
    exact ⟨0, 0, 1, rfl, rfl, rfl, by omega, by omega, fun _ => by omega⟩
  rw [if_neg h2, if_neg h2, if_neg h2, m1, m2, Option.bind_some, Option.bind_some, Option.bind_some]
  cases b with
  | false =>
    rw [if_neg (by decide), if_neg (by decide), if_neg (by decide), err, err]
    exact ⟨0, 0, 1, rfl, rfl, rfl, by omega, by omega, fun _ => by omega⟩
  | true =>
    rw [if_pos rfl, if_pos rfl, if_pos rfl]
    by_cases h3 : p ≤ 0
    · rw [if_pos h3, if_pos h3, if_pos h3, err, err]
      exact ⟨0, 0, 1, rfl, rfl, rfl, by omega, by omega, fun _ => by omega⟩
    rw [if_neg h3, if_neg h3, if_neg h3]
    by_cases h4 : p > 1073741824
    · rw [if_pos h4, if_pos h4, if_pos h4, err, err]
      exact ⟨0, 0, 1, rfl, rfl, rfl, by omega, by omega, fun _ => by omega⟩
    rw [if_neg h4, if_neg h4, if_neg h4]
    have hd0 := hb rfl
    by_cases h5 : d > 1073741824
    · rw [if_pos h5, decide_eq_true h5, err, err]
      exact ⟨0, 0, 1, rfl, rfl, rfl, by omega, by omega, fun _ => by omega⟩
    rw [if_neg h5, decide_eq_false h5, cov_j0 k n reach p d (by omega) (by omega) (by omega) (by omega) hd0 (by omega), cov_j0 k m reach p d (by omega) (by omega) (by omega) (by omega) hd0 (by omega)]
    obtain ⟨q, hq, e⟩ := ref_floor n reach p d (by omega) (by omega) (by omega) (by omega) hd0 (by omega)
    rw [hq, Option.bind_some, e]
    obtain ⟨r1, r2⟩ := cov_range n reach p d hd0
    exact ⟨_, _, 0, rfl, rfl, rfl, r1, r2, fun h => cov_mono n m reach p d h (by omega) (by omega) hd0⟩
theorem law (n m reach p d : Int) (hp : (Lit.int .i64 p).wf = true) (hd : (Lit.int .i64 d).wf = true) : ∃ k, pochoirlaw32_SampleCovers.f k n m reach p d = some true := by
  obtain ⟨k1, h1⟩ := awake
  obtain ⟨k2, a, b, e, h2, h3, h4, h5, h6, h7⟩ := covers n m reach p d hp hd
  suffices hg : pochoirlaw32_SampleCovers.g (k1 + k2) n m reach p d = some true from ⟨k1 + k2, by unfold pochoirlaw32_SampleCovers.f; rw [hg]; rfl⟩
  unfold pochoirlaw32_SampleCovers.g
  rw [up pochoirlaw32_awake.mono h1 (by omega : k1 ≤ k1 + k2), Option.bind_some, if_pos rfl, up (fun k => sample_Cover.mono _ _ _ _ k) h2 (by omega : k2 ≤ k1 + k2), Option.bind_some, up (fun k => pochoirref32_Cover.mono _ _ _ _ k) h3 (by omega : k2 ≤ k1 + k2), Option.bind_some]
  simp only []
  rw [if_pos (wrap_id (by omega) (by omega)), if_pos trivial, up (fun k => sample_Cover.mono _ _ _ _ k) h4 (by omega : k2 ≤ k1 + k2), Option.bind_some]
  by_cases h : n > m
  · rw [if_pos h]
  · rw [if_neg h, decide_eq_true (h7 (by omega))]
end Go.Proofs.YtjcgmjhcaaaieaaDoor.Pure
