/- Pure: the bytes of pairs: the program's Make and the reference's write the same. -/
import Derived.Test.YthnojbbfmcapnaaPr7
import Derived.Test.YthnojbbfmcapnaaPr9
import Derived.Test.YthnojbbfmcapnaaPr10
import Derived.Test.YthnojbbfmcapnaaPr11
import Derived.Test.YthnojbbfmcapnaaPr12
import Derived.Test.YthnojbbfmcapnaaPr24
import Derived.Test.YthnojbbfmcapnaaPr25
import Derived.Test.YthnojbbfmcapnaaPurePairs
namespace Go.Proofs.Ythnojbbfmcapnaa.Pure
set_option linter.unusedVariables false
set_option linter.unusedSimpArgs false
open Go.RowKit Go.Proofs.Ythnojbbfmcapnaa.Pr
open Go.Proofs.YthnojbbfmcapnaaW.PrintWords Go.Proofs.YthnojbbfmcapnaaW.PrintLast Go.Proofs.YthnojbbfmcapnaaW.PrintMore
theorem p16_ev (xs : List Int) (hn : xs.length ≤ 4611686018427387903) : Ev (fun k => kern_p16.f k xs) (encL xs) := by
  have key : ∀ (m i : Nat), xs.length - i = m → i ≤ xs.length → Ev (fun k => kern_p16.l0 k (encL (xs.take i)) xs (xs.length : Int) i) (encL xs) := by
    intro m
    induction m with
    | zero =>
      intro i h1 h2
      have : xs.take i = xs := List.take_of_length_le (by omega)
      rw [this]
      exact one_ _ (fun k => by simp only [kern_p16.l0]; rw [if_neg (by omega)])
    | succ m ih =>
      intro i h1 h2
      have ht : xs.take (i + 1) = xs.take i ++ [rd xs i] := by
        rw [List.take_succ_eq_append_getElem (by omega)]
        congr 2
        unfold rd
        simp [List.getD, (by omega : i < xs.length)]
      refine Ev.step (fun k => ?_) (ih (i + 1) (by omega) (by omega))
      simp only [kern_p16.l0]
      rw [if_pos (by omega), if_pos (by omega), if_pos (by omega), p16_two, Option.bind_some, if_pos (by rw [encL_size, encL_size, List.length_take]; simp; omega), encL_append, ← ht, wup (by omega)]
  exact key xs.length 0 rfl (by omega)
theorem rp16_ev (v : Int) : Ev (fun k => pochoirref40_p16.f k v) (encL [v]) :=
  Ev.congr (g := fun k => pochoirref40_p16.f k v) (fun k => by unfold pochoirref40_p16.f; rfl) (Ev.bind (rput16_two v) (Ev.now _))
/-- The three numbers of a search. -/
def s3 (n : Int) : List Int := if n = 0 then [0, 0, 0] else [shl .i64 6 (wrap64 ((Lib.bitLen n.toNat : Int) - 1)), wrap64 ((Lib.bitLen n.toNat : Int) - 1), wrap64 ((wrap64 (6 * n)) - (shl .i64 6 (wrap64 ((Lib.bitLen n.toNat : Int) - 1))))]
def s3ok (n : Nat) : Bool := decide (pochoirref40_three.f 16 n = some (s3 n)) && (decide ((n : Int) = 0 ∨ 0 ≤ wrap64 ((Lib.bitLen n : Int) - 1)) && (s3 n).all fun x => decide (0 ≤ x ∧ x ≤ 65535))
set_option maxRecDepth 100000 in
set_option maxHeartbeats 4000000 in
theorem s3_all : (List.range 4097).all s3ok = true := by decide +kernel
theorem s3_at {n : Nat} (h : n ≤ 4096) : s3ok n = true := List.all_eq_true.mp s3_all n (List.mem_range.mpr (by omega))
theorem three_mono : ∀ (k : Nat) (a b c : Int), LeO (pochoirref40_three.l0 k a b c) (pochoirref40_three.l0 (k + 1) a b c)
  | 0, _, _, _ => fun r h => by simp [pochoirref40_three.l0] at h
  | k + 1, a, b, c => by
    unfold pochoirref40_three.l0
    exact LeO.ite (three_mono k _ _ _) (LeO.refl _)
theorem three_ev {n : Nat} (h : n ≤ 4096) : Ev (fun k => pochoirref40_three.f k n) (s3 n) := by
  have h0 := s3_at h
  simp only [s3ok, Bool.and_eq_true, decide_eq_true_eq] at h0
  refine Ev.of (g := fun k => pochoirref40_three.f k n) (fun k => ?_) h0.1
  unfold pochoirref40_three.f
  exact LeO.ite (LeO.refl _) (three_mono _ _ _ _)
theorem s3_len (n : Int) : (s3 n).length = 3 := by unfold s3; split <;> rfl
/-- The nine numbers that stand ahead. -/
def hdr (n : Int) : List Int := [0, 1, 0, 14 + 6 * n, 1, n] ++ s3 n
theorem hdr_len (n : Int) : (hdr n).length = 9 := by unfold hdr; rw [List.length_append, s3_len]; rfl
theorem s3_rng {n : Nat} (h : n ≤ 4096) : ∀ x ∈ s3 n, 0 ≤ x ∧ x ≤ 65535 := by
  have h0 := s3_at h
  simp only [s3ok, Bool.and_eq_true, decide_eq_true_eq, List.all_eq_true] at h0
  exact h0.2.2
theorem hdr_rng {n : Nat} (h : n ≤ 4096) : ∀ x ∈ hdr n, 0 ≤ x ∧ x ≤ 65535 := by
  intro x hx
  unfold hdr at hx
  rcases List.mem_append.mp hx with h1 | h1
  · simp at h1
    omega
  · exact s3_rng h x h1
theorem search_ev {n : Nat} (h : n ≤ 4096) : Ev (fun k => kern_search.f k n) (encL (s3 n)) := by
  have h0 := s3_at h
  simp only [s3ok, Bool.and_eq_true, decide_eq_true_eq] at h0
  by_cases c : (n : Int) = 0
  · have : s3 (n : Int) = [0, 0, 0] := by unfold s3; rw [if_pos c]
    rw [this]
    exact Ev.congr (g := fun k => kern_search.f k n) (fun k => by unfold kern_search.f; rw [if_pos c]) (Ev.bind (p16_ev _ (by simp)) (Ev.now _))
  · have e : s3 (n : Int) = [shl .i64 6 (wrap64 ((Lib.bitLen n : Int) - 1)), wrap64 ((Lib.bitLen n : Int) - 1), wrap64 ((wrap64 (6 * (n : Int))) - (shl .i64 6 (wrap64 ((Lib.bitLen n : Int) - 1))))] := by unfold s3; rw [if_neg c]; rfl
    have u : IntKind.u64.wrap (n : Int) = n := by simp [IntKind.wrap, IntKind.signed, IntKind.bits]; omega
    rw [e]
    refine Ev.congr (g := fun k => kern_search.f k n) (fun k => ?_) (Ev.bind (p16_ev _ (by simp)) (Ev.now _))
    unfold kern_search.f
    rw [if_neg c]
    unfold bits_Len.f bits_Len64.f
    rw [u, if_pos (by omega), Option.bind_some, Option.bind_some, Int.toNat_natCast, if_pos (by omega)]
theorem ahead_ev {n : Nat} (h : n ≤ 4096) : Ev (fun k => kern_ahead.f k n) (encL (hdr n)) := by
  have w : wrap64 (14 + wrap64 (6 * (n : Int))) = 14 + 6 * n := by unfold wrap64; omega
  refine Ev.congr (g := fun k => kern_ahead.f k n) (fun k => by unfold kern_ahead.f; rw [w]) (Ev.bind (p16_ev _ (by simp)) (Ev.bind (search_ev h) ?_))
  rw [encL_append]
  exact pos_ (by rw [encL_size, encL_size, s3_len]; simp) (Ev.now _)
def body (l : List S41) : List Int := l.flatMap fun x => [x.f0, x.f1, x.f2]
theorem body_len (l : List S41) : (body l).length = 3 * l.length := by
  induction l with
  | nil => rfl
  | cons x l ih =>
    simp only [body, List.flatMap_cons, List.length_append, List.length_cons, List.length_nil] at ih ⊢
    omega
theorem body_take (l : List S41) (i : Nat) (h : i < l.length) : body (l.take (i + 1)) = body (l.take i) ++ [(rd_T41 l i).f0, (rd_T41 l i).f1, (rd_T41 l i).f2] := by
  rw [List.take_succ_eq_append_getElem h, rd41_at l i h]
  unfold body
  rw [List.flatMap_append]
  rfl
def makeV (l : List S41) : ByteArray × Int := if mayB 1024 l = true then (encL (hdr l.length ++ body l), 0) else (⟨#[]⟩, 1)
theorem make_ev (l : List S41) (hn : l.length ≤ 4096) : Ev (fun k => kern_Make.f k l) (makeV l) := by
  have key : ∀ (m i : Nat), l.length - i = m → i ≤ l.length → Ev (fun k => kern_Make.l0 k l i (encL (hdr l.length ++ body (l.take i)))) (encL (hdr l.length ++ body l), 0) := by
    intro m
    induction m with
    | zero =>
      intro i h1 h2
      have : l.take i = l := List.take_of_length_le (by omega)
      rw [this]
      have hz : (encL (hdr l.length ++ body l)).data.toList ≠ [] := by
        intro h
        have := encL_size (hdr l.length ++ body l)
        have h' : (encL (hdr l.length ++ body l)).size = 0 := by
          show (encL (hdr l.length ++ body l)).data.size = 0
          rw [← Array.length_toList, h]
          rfl
        rw [h', List.length_append, hdr_len] at this
        omega
      exact one_ _ (fun k => by simp only [kern_Make.l0]; rw [if_neg (by omega), if_neg hz])
    | succ m ih =>
      intro i h1 h2
      have b := body_len (l.take i)
      rw [List.length_take] at b
      refine Ev.step (fun k => by simp only [kern_Make.l0]; rw [if_pos (by omega), if_pos (by omega)]) (Ev.bind (p16_ev _ (by simp)) ?_)
      refine pos_ ?_ ?_
      · rw [encL_size, encL_size, List.length_append, hdr_len, b]
        simp
        omega
      rw [encL_append, List.append_assoc, ← body_take l i (by omega), wup (by omega)]
      exact ih (i + 1) (by omega) (by omega)
  refine Ev.congr (g := fun k => kern_Make.f k l) (fun k => by unfold kern_Make.f; rfl) (Ev.bind (may_ev 1024 l (by omega)) ?_)
  unfold makeV
  cases mayB 1024 l with
  | false => exact Ev.now _
  | true =>
    simp only [if_true]
    refine Ev.bind (ahead_ev hn) (pos_ (by rw [encL_size, hdr_len]; decide) ?_)
    have := key l.length 0 rfl (by omega)
    simpa [body] using this
theorem s3_cons (n : Int) : s3 n = [rd (s3 n) 0, rd (s3 n) 1, rd (s3 n) 2] := by
  have := s3_len n
  match h : s3 n, this with
  | [a, b, c], _ => rfl
theorem rmake_ev (l : List S41) (hn : l.length ≤ 4096) : Ev (fun k => pochoirref40_Make.f k l) (makeV l) := by
  have key : ∀ (m i : Nat), l.length - i = m → i ≤ l.length → Ev (fun k => pochoirref40_Make.l0 k l (l.length : Int) (encL (hdr l.length ++ body (l.take i))) i) (encL (hdr l.length ++ body l), 0) := by
    intro m
    induction m with
    | zero =>
      intro i h1 h2
      have : l.take i = l := List.take_of_length_le (by omega)
      rw [this]
      exact one_ _ (fun k => by simp only [pochoirref40_Make.l0]; rw [if_neg (by omega)])
    | succ m ih =>
      intro i h1 h2
      have b := body_len (l.take i)
      rw [List.length_take] at b
      refine Ev.step (fun k => by simp only [pochoirref40_Make.l0]; rw [if_pos (by omega), if_pos (by omega), if_pos (by omega)]) (Ev.bind (rp16_ev _) (pos_ ?_ (Ev.bind (rp16_ev _) (pos_ ?_ (Ev.bind (rp16_ev _) (pos_ ?_ ?_))))))
      · simp only [encL_size, List.length_append, hdr_len, b, List.length_cons, List.length_nil]
        omega
      · simp only [encL_append, encL_size, List.length_append, hdr_len, b, List.length_cons, List.length_nil]
        omega
      · simp only [encL_append, encL_size, List.length_append, hdr_len, b, List.length_cons, List.length_nil]
        omega
      have e : hdr l.length ++ body (l.take i) ++ [(rd_T41 l i).f0] ++ [(rd_T41 l i).f1] ++ [(rd_T41 l i).f2] = hdr l.length ++ body (l.take (i + 1)) := by rw [body_take l i (by omega)]; simp
      rw [encL_append, encL_append, encL_append, e, wup (by omega)]
      exact ih (i + 1) (by omega) (by omega)
  refine Ev.congr (g := fun k => pochoirref40_Make.f k l) (fun k => by unfold pochoirref40_Make.f; rfl) (Ev.bind (rmay_ev 1024 l (by omega)) ?_)
  unfold makeV
  cases mayB 1024 l with
  | false => exact Ev.now _
  | true =>
    simp only [if_true]
    have w : wrap64 (14 + wrap64 (6 * (l.length : Int))) = 14 + 6 * (l.length : Int) := by unfold wrap64; omega
    have s : ∀ xs ys : List Int, xs.length + ys.length ≤ 20 → (encL xs).size + (encL ys).size ≤ 9223372036854775807 := fun xs ys h => by rw [encL_size, encL_size]; omega
    have l3 : ((s3 (l.length : Int)).length : Int) = 3 := by rw [s3_len]; rfl
    have e : ([0] ++ [1] ++ [0] ++ [14 + 6 * (l.length : Int)] ++ [1] ++ [(l.length : Int)] ++ [rd (s3 l.length) 0] ++ [rd (s3 l.length) 1] ++ [rd (s3 l.length) 2] : List Int) = hdr l.length := by
      unfold hdr
      conv => rhs; rw [s3_cons]
      rfl
    refine Ev.bind (three_ev hn) (Ev.bind (rp16_ev _) (Ev.bind (rp16_ev _) (pos_ (s _ _ (by simp)) (Ev.bind (rp16_ev _) ?_))))
    simp only [encL_append]
    refine pos_ (s _ _ (by simp)) (Ev.bind (rp16_ev _) ?_)
    simp only [encL_append]
    refine pos_ (s _ _ (by simp)) (Ev.bind (rp16_ev _) ?_)
    simp only [encL_append]
    refine pos_ (s _ _ (by simp)) (Ev.bind (rp16_ev _) ?_)
    simp only [encL_append]
    refine pos_ (s _ _ (by simp)) (pos_ (by omega) (Ev.bind (rp16_ev _) ?_))
    simp only [encL_append]
    refine pos_ (s _ _ (by simp)) (pos_ (by omega) (Ev.bind (rp16_ev _) ?_))
    simp only [encL_append]
    refine pos_ (s _ _ (by simp)) (pos_ (by omega) (Ev.bind (rp16_ev _) ?_))
    simp only [encL_append, w]
    refine pos_ (s _ _ (by simp)) ?_
    rw [e]
    have := key l.length 0 rfl (by omega)
    simpa [body] using this
end Go.Proofs.Ythnojbbfmcapnaa.Pure
