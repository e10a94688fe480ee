/- Pure: pairs read out of bytes: the program's Parse and the reference's agree, and Parse gives back what Make wrote. -/
import Derived.Test.YthnojbbfmcapnaaPr16
import Derived.Test.YthnojbbfmcapnaaPr18
import Derived.Test.YthnojbbfmcapnaaPr29
import Derived.Test.YthnojbbfmcapnaaPr31
import Derived.Test.YthnojbbfmcapnaaPr32
import Derived.Test.YthnojbbfmcapnaaPureMake
namespace Go.Proofs.Ythnojbbfmcapnaa.Pure
set_option linter.unusedVariables false
set_option linter.unusedSimpArgs false
open Go.RowKit Go.Proofs.Ythnojbbfmcapnaa.Pr
open Go.Proofs.YthnojbbfmcapnaaW.PrintWords Go.Proofs.YthnojbbfmcapnaaW.PrintLast Go.Proofs.YthnojbbfmcapnaaW.PrintMore
theorem wmul {c i : Int} (h0 : 0 ≤ i) (h1 : i ≤ 4096) (h2 : 0 ≤ c) (h3 : c ≤ 100) : wrap64 (c + wrap64 (6 * i)) = c + 6 * i := by rw [wid (n := 6 * i) (by omega) (by omega), wid (by omega) (by omega)]
theorem getD_mem (l : List Int) (j : Nat) (h : j < l.length) : l.getD j 0 ∈ l := by simp [List.getD, h]
theorem getD_left (a b : List Int) (j : Nat) (h : j < a.length) : (a ++ b).getD j 0 = a.getD j 0 := by simp [List.getD, List.getElem?_append_left h]
theorem getD_right (a b : List Int) (j : Nat) (h : a.length ≤ j) : (a ++ b).getD j 0 = b.getD (j - a.length) 0 := by simp [List.getD, List.getElem?_append_right h]
theorem ext_bt (a b : ByteArray) (hz : a.size = b.size) (h : ∀ i : Nat, i < a.size → bt a i = bt b i) : a = b := by
  apply ByteArray.ext
  refine Array.ext hz ?_
  intro i h1 h2
  have e := h i h1
  unfold bt at e
  rw [dif_pos (show (i : Int).toNat < a.size from h1), dif_pos (show (i : Int).toNat < b.size from h2)] at e
  have e2 : (a[(i : Int).toNat]'h1).toNat = (b[(i : Int).toNat]'h2).toNat := by omega
  exact UInt8.toNat_inj.mp e2
theorem list_inj {a b : ByteArray} (h : a.toList = b.toList) : a = b := by
  rw [ByteArray.toList_eq, ByteArray.toList_eq] at h
  exact ByteArray.ext (Array.toList_inj.mp h)
def allH (s : ByteArray) (n : Int) (i m : Nat) : Bool := (List.range' i m).all fun j => decide (u16At s (2 * (j : Int)) = rd (hdr n) j)
theorem rd_def (l : List Int) (i : Nat) : rd l (i : Int) = l.getD i 0 := rfl
theorem hdr_mod {n : Nat} (h : n ≤ 4096) (j : Nat) (hj : j < 9) : rd (hdr n) j % 65536 = rd (hdr n) j := by
  have := hdr_rng h (rd (hdr n) j) (by
    rw [rd_def]
    exact getD_mem _ _ (by rw [hdr_len]; exact hj))
  omega
theorem head_iff {s : ByteArray} {n : Nat} (hn : n ≤ 4096) (hs : 18 ≤ s.size) : (s.extract 0 18).toList = (encL (hdr n)).toList ↔ allH s n 0 9 = true := by
  have be : ∀ j : Nat, j < 18 → bt (s.extract 0 18) j = bt s j := fun j hj => by
    have := bt_extract s 0 18 j (by omega) (by omega) (by omega) (by omega)
    simpa using this
  have ue : ∀ j : Nat, j < 9 → u16At (encL (hdr n)) (2 * j) = rd (hdr n) j := fun j hj => by
    rw [u16At_enc _ _ (by omega) (by rw [hdr_len]; omega), ← hdr_mod hn j hj]
    rfl
  constructor
  · intro h
    have h := list_inj h
    simp only [allH, List.all_eq_true, decide_eq_true_eq, List.mem_range'_1]
    intro j hj
    rw [← ue j (by omega), ← h]
    unfold u16At
    have e1 := be (2 * j) (by omega)
    have e2 := be (2 * j + 1) (by omega)
    rw [show ((2 * j : Nat) : Int) = 2 * (j : Int) by omega] at e1
    rw [show ((2 * j + 1 : Nat) : Int) = 2 * (j : Int) + 1 by omega] at e2
    rw [e1, e2]
  · intro h
    simp only [allH, List.all_eq_true, decide_eq_true_eq, List.mem_range'_1] at h
    congr 1
    have hz : (s.extract 0 18).size = 18 := by rw [ByteArray.size_extract]; omega
    refine ext_bt _ _ (by rw [hz, encL_size, hdr_len]) ?_
    intro i hi
    rw [hz] at hi
    rw [be i hi]
    have h1 := h (i / 2) (by omega)
    rw [← ue (i / 2) (by omega)] at h1
    unfold u16At at h1
    have r1 := bt_rng s (2 * ((i / 2 : Nat) : Int))
    have r2 := bt_rng s (2 * ((i / 2 : Nat) : Int) + 1)
    have r3 := bt_rng (encL (hdr n)) (2 * ((i / 2 : Nat) : Int))
    have r4 := bt_rng (encL (hdr n)) (2 * ((i / 2 : Nat) : Int) + 1)
    by_cases c : i % 2 = 0
    · have e : (i : Int) = 2 * ((i / 2 : Nat) : Int) := by omega
      rw [e]
      omega
    · have e : (i : Int) = 2 * ((i / 2 : Nat) : Int) + 1 := by omega
      rw [e]
      omega
def entry (s : ByteArray) (i : Nat) : S41 := ⟨u16At s (18 + 6 * (i : Int)), u16At s (20 + 6 * (i : Int)), sgn (u16At s (22 + 6 * (i : Int)))⟩
def okE (g : Int) (acc : List S41) (e : S41) : Bool := decide (e.f0 < g ∧ e.f1 < g) && ((acc.length == 0) || lt (rd_T41 acc ((acc.length : Int) - 1)) e)
def loopV (g : Int) (s : ByteArray) : Nat → List S41 → List S41 × Int
  | 0, acc => (acc, 0)
  | m + 1, acc => if okE g acc (entry s acc.length) = true then loopV g s m (acc ++ [entry s acc.length]) else ([], 4)
def parseV (g : Int) (s : ByteArray) : List S41 × Int :=
  if g < 1 ∨ g > 1024 then ([], 1) else if (s.size : Int) < 18 then ([], 3) else if u16At s 10 > 4096 then ([], 6) else if allH s (u16At s 10) 0 9 = true then (if (s.size : Int) < 18 + 6 * u16At s 10 then ([], 3) else loopV g s (u16At s 10).toNat []) else ([], 4)
theorem app_left (acc : List S41) (e : S41) (i : Nat) (h : i < acc.length) : rd_T41 (acc ++ [e]) (i : Int) = rd_T41 acc i := by
  rw [rd41_at _ _ h, rd41_at _ _ (by simp; omega), List.getElem_append_left h]
theorem app_here (acc : List S41) (e : S41) : rd_T41 (acc ++ [e]) (acc.length : Int) = e := by
  rw [rd41_at _ _ (by simp)]
  simp
theorem prev_app (acc : List S41) (e : S41) (i : Nat) (h0 : 0 < i) (h : i ≤ acc.length) : rd_T41 (acc ++ [e]) ((i : Int) - 1) = rd_T41 acc ((i : Int) - 1) := by
  have := app_left acc e (i - 1) (by omega)
  rw [show ((i - 1 : Nat) : Int) = (i : Int) - 1 by omega] at this
  exact this
theorem rise_app (acc : List S41) (e : S41) : ((acc.length == 0) || lt (rd_T41 (acc ++ [e]) ((acc.length : Int) - 1)) (rd_T41 (acc ++ [e]) (acc.length : Int))) = ((acc.length == 0) || lt (rd_T41 acc ((acc.length : Int) - 1)) e) := by
  rw [app_here]
  by_cases c : acc.length = 0
  · have : (acc.length == 0) = true := by simpa using c
    rw [this]
    rfl
  · rw [prev_app acc e acc.length (by omega) (by omega)]
theorem parse_loop (g : Int) (s : ByteArray) (n : Nat) (hn : n ≤ 4096) (hs : (s.size : Int) ≤ 9223372036854775807) (hz : 18 + 6 * (n : Int) ≤ s.size) : ∀ (m i : Nat) (acc : List S41), acc.length = i → n - i = m → i ≤ n → Ev (fun k => kern_Parse.l0 k g acc (n : Int) i s (18 + 6 * (i : Int)) false) (loopV g s m acc) := by
  intro m
  induction m with
  | zero =>
    intro i acc h0 h1 h2
    exact one_ _ (fun k => by simp only [kern_Parse.l0]; rw [if_neg (by omega)]; rfl)
  | succ m ih =>
    intro i acc h0 h1 h2
    have r1 := u16At_rng s (18 + 6 * (i : Int))
    have r2 := u16At_rng s (20 + 6 * (i : Int))
    have r3 := u16At_rng s (22 + 6 * (i : Int))
    have p1 : 18 + 6 * (i : Int) + 2 = 20 + 6 * i := by omega
    have p2 : 20 + 6 * (i : Int) + 2 = 22 + 6 * i := by omega
    have p3 : 22 + 6 * (i : Int) + 2 = 18 + 6 * ((i + 1 : Nat) : Int) := by omega
    have e1 := readU16_ev (s := s) (i := 18 + 6 * (i : Int)) (by omega) (by omega) hs
    have e2 := readU16_ev (s := s) (i := 20 + 6 * (i : Int)) (by omega) (by omega) hs
    have e3 := readI16_ev (s := s) (i := 22 + 6 * (i : Int)) (by omega) (by omega) hs
    rw [p1] at e1
    rw [p2] at e2
    rw [p3] at e3
    refine Ev.step (fun k => by simp only [kern_Parse.l0]; rw [if_pos (by omega)]) (Ev.bind e1 (Ev.bind e2 (Ev.bind e3 (pos_ (show acc.length < 5864062014805 by omega) ?_))))
    have hg : -32768 ≤ sgn (u16At s (22 + 6 * (i : Int))) ∧ sgn (u16At s (22 + 6 * (i : Int))) ≤ 65535 := by unfold sgn; split <;> omega
    simp only [Option.bind_some]
    rw [wid (n := u16At s (18 + 6 * (i : Int))) (by omega) (by omega), wid (n := u16At s (20 + 6 * (i : Int))) (by omega) (by omega), wid (n := sgn _) (by omega) (by omega), wup (by omega)]
    have hE : (⟨u16At s (18 + 6 * (i : Int)), u16At s (20 + 6 * (i : Int)), sgn (u16At s (22 + 6 * (i : Int)))⟩ : S41) = entry s i := rfl
    rw [hE]
    simp only [loopV, h0]
    by_cases c : mx (u16At s (18 + 6 * (i : Int))) (u16At s (20 + 6 * (i : Int))) ≥ g
    · refine pos_ c ?_
      rw [mx_def] at c
      have : okE g acc (entry s i) = false := by unfold okE entry; rw [decide_eq_false (by simp only []; omega), Bool.false_and]
      rw [this]
      exact Ev.now _
    · refine neg_ c ?_
      rw [mx_def] at c
      have hr := rises_ev (acc ++ [entry s i]) i (by simp; omega) (by simp; omega)
      subst h0
      rw [rise_app] at hr
      have : okE g acc (entry s acc.length) = ((acc.length == 0) || lt (rd_T41 acc ((acc.length : Int) - 1)) (entry s acc.length)) := by
        unfold okE
        rw [decide_eq_true (by unfold entry; simp only []; omega), Bool.true_and]
      rw [this]
      refine Ev.bind hr ?_
      cases ((acc.length == 0) || lt (rd_T41 acc ((acc.length : Int) - 1)) (entry s acc.length)) with
      | false => exact Ev.now _
      | true =>
        simp only [if_true]
        exact ih (acc.length + 1) _ (by simp) (by omega) (by omega)
theorem rparse_loop (g : Int) (s : ByteArray) (n : Nat) (hn : n ≤ 4096) (hs : (s.size : Int) ≤ 9223372036854775807) (hz : 18 + 6 * (n : Int) ≤ s.size) : ∀ (m i : Nat) (acc : List S41), acc.length = i → n - i = m → i ≤ n → Ev (fun k => pochoirref40_Parse.l1 k s g (n : Int) acc i) (loopV g s m acc) := by
  intro m
  induction m with
  | zero =>
    intro i acc h0 h1 h2
    exact one_ _ (fun k => by simp only [pochoirref40_Parse.l1]; rw [if_neg (by omega)]; rfl)
  | succ m ih =>
    intro i acc h0 h1 h2
    have r1 := u16At_rng s (18 + 6 * (i : Int))
    have r2 := u16At_rng s (20 + 6 * (i : Int))
    have w1 : wrap64 (18 + wrap64 (6 * (i : Int))) = 18 + 6 * (i : Int) := wmul (by omega) (by omega) (by decide) (by decide)
    have w2 : wrap64 (20 + wrap64 (6 * (i : Int))) = 20 + 6 * (i : Int) := wmul (by omega) (by omega) (by decide) (by decide)
    have w3 : wrap64 (22 + wrap64 (6 * (i : Int))) = 22 + 6 * (i : Int) := wmul (by omega) (by omega) (by decide) (by decide)
    have u : ∀ p : Int, 0 ≤ p → p + 2 ≤ (s.size : Int) → Ev (fun k => pochoirref40_u16.f k s p) (u16At s p) := fun p hp hq => by
      have hr := u16At_rng s p
      refine Ev.congr (g := fun k => pochoirref40_u16.f k s p) (fun k => by unfold pochoirref40_u16.f; rfl) (Ev.bind (ru16_ev hp hq hs) ?_)
      simp only []
      rw [wid (by omega) (by omega)]
      exact Ev.now _
    have sg : Ev (fun k => pochoirref07_Signed.f k s (22 + 6 * (i : Int))) (sgn (u16At s (22 + 6 * (i : Int)))) :=
      Ev.congr (g := fun k => pochoirref07_Signed.f k s (22 + 6 * (i : Int))) (fun k => by unfold pochoirref07_Signed.f; rfl) (Ev.bind (rreadI16_ev (by omega) (by omega) hs) (Ev.now _))
    refine Ev.step (fun k => by simp only [pochoirref40_Parse.l1]; rw [if_pos (by omega), w1, w2, w3]) (Ev.bind (u (18 + 6 * (i : Int)) (by omega) (by omega)) (Ev.bind (u (20 + 6 * (i : Int)) (by omega) (by omega)) (Ev.bind sg ?_)))
    simp only [loopV, h0]
    by_cases c1 : u16At s (18 + 6 * (i : Int)) ≥ g
    · refine pos_ c1 ?_
      have : okE g acc (entry s i) = false := by unfold okE entry; rw [decide_eq_false (by simp only []; omega), Bool.false_and]
      rw [this]
      exact Ev.now _
    refine neg_ c1 ?_
    by_cases c2 : u16At s (20 + 6 * (i : Int)) ≥ g
    · refine pos_ c2 ?_
      have : okE g acc (entry s i) = false := by unfold okE entry; rw [decide_eq_false (by simp only []; omega), Bool.false_and]
      rw [this]
      exact Ev.now _
    refine neg_ c2 ?_
    have hE : okE g acc (entry s i) = ((acc.length == 0) || lt (rd_T41 acc ((acc.length : Int) - 1)) (entry s i)) := by
      unfold okE
      rw [decide_eq_true (by unfold entry; simp only []; omega), Bool.true_and]
    rw [hE]
    have hi := ih (i + 1) (acc ++ [entry s i]) (by simp [h0]) (by omega) (by omega)
    by_cases c3 : (i : Int) > 0
    · have w4 : wrap64 ((i : Int) - 1) = (i : Int) - 1 := wid (by omega) (by omega)
      have z : (acc.length == 0) = false := by rw [h0]; simp; omega
      rw [w4, z, Bool.false_or, h0]
      refine pos_ c3 (pos_ (by omega) (pos_ (by omega) ?_))
      have ha := after_lt (entry s i) (rd_T41 acc ((i : Int) - 1))
      refine Ev.congr (g := _) (f := fun k => if lt (rd_T41 acc ((i : Int) - 1)) (entry s i) = true then (if acc.length < 5864062014805 then pochoirref40_Parse.l1 k s g (n : Int) (acc ++ [entry s i]) (wrap64 ((i : Int) + 1)) else none) else some ([], 4)) (fun k => ?_) ?_
      · simp only [entry] at ha ⊢
        rw [ha, Option.bind_some, h0]
        rfl
      cases lt (rd_T41 acc ((i : Int) - 1)) (entry s i) with
      | false => exact Ev.now _
      | true =>
        simp only [if_true]
        refine pos_ (by omega) ?_
        rw [wup (by omega)]
        exact hi
    · have z : (acc.length == 0) = true := by rw [h0]; simp; omega
      rw [z, Bool.true_or]
      simp only [if_true]
      refine neg_ c3 (pos_ (by omega) ?_)
      rw [wup (by omega)]
      exact hi
theorem parse_ev (g : Int) (s : ByteArray) (hs : (s.size : Int) ≤ 9223372036854775807) : Ev (fun k => kern_Parse.f k s g) (parseV g s) := by
  have jt : Ev (fun k => kern_Parse.j0 k s g true) ([], 1) := one_ _ (fun k => by simp only [kern_Parse.j0, if_true])
  unfold parseV
  by_cases h1 : g < 1
  · rw [if_pos (.inl h1)]
    exact Ev.congr (g := fun k => kern_Parse.f k s g) (fun k => by unfold kern_Parse.f; rw [if_pos h1]) jt
  by_cases h2 : g > 1024
  · rw [if_pos (.inr h2)]
    exact Ev.congr (g := fun k => kern_Parse.f k s g) (fun k => by unfold kern_Parse.f; rw [if_neg h1, decide_eq_true h2]) jt
  rw [if_neg (by omega)]
  refine Ev.congr (g := fun k => kern_Parse.f k s g) (f := fun k => kern_Parse.j0 k s g false) (fun k => by unfold kern_Parse.f; rw [if_neg h1, decide_eq_false h2]) ?_
  refine Ev.step (fun k => by simp only [kern_Parse.j0]; rw [if_neg (by decide)]) ?_
  by_cases h3 : (s.size : Int) < 18
  · rw [if_pos h3]
    exact pos_ h3 (Ev.now _)
  rw [if_neg h3]
  have hr := u16At_rng s 10
  refine neg_ h3 (Ev.bind (u16_ev (by omega) (by omega) hs) ?_)
  simp only []
  rw [wid (n := u16At s 10) (by omega) (by omega)]
  by_cases h4 : u16At s 10 > 4096
  · rw [if_pos h4]
    exact pos_ h4 (Ev.now _)
  rw [if_neg h4]
  obtain ⟨n, hn⟩ := Int.eq_ofNat_of_zero_le hr.1
  rw [hn] at h4 ⊢
  have hN : n ≤ 4096 := by omega
  have w : wrap64 (18 + wrap64 (6 * (n : Int))) = 18 + 6 * (n : Int) := wmul (by omega) (by omega) (by decide) (by decide)
  refine neg_ h4 (pos_ (by decide) (pos_ (by omega) (Ev.bind (ahead_ev hN) ?_)))
  by_cases h5 : allH s n 0 9 = true
  · rw [if_pos h5, w]
    refine pos_ ((head_iff hN (by omega)).mpr h5) ?_
    by_cases h6 : (s.size : Int) < 18 + 6 * (n : Int)
    · rw [if_pos h6]
      exact pos_ h6 (Ev.now _)
    rw [if_neg h6, Int.toNat_natCast]
    refine neg_ h6 ?_
    refine Ev.congr (fun k => ?_) (parse_loop g s n hN hs (by omega) n 0 [] rfl (by omega) (by omega))
    unfold octet_New.f
    rw [Option.bind_some]
    simp only []
    rw [skip_in 18 (by omega) (by omega) (by omega) hs, Option.bind_some]
    rfl
  · rw [if_neg h5]
    exact neg_ (fun h => h5 ((head_iff hN (by omega)).mp h)) (Ev.now _)
theorem rparse_ev (g : Int) (s : ByteArray) (hs : (s.size : Int) ≤ 9223372036854775807) : Ev (fun k => pochoirref40_Parse.f k s g) (parseV g s) := by
  have jt : Ev (fun k => pochoirref40_Parse.j0 k s g true) ([], 1) := one_ _ (fun k => by simp only [pochoirref40_Parse.j0, if_true])
  have u : ∀ p : Int, 0 ≤ p → p + 2 ≤ (s.size : Int) → Ev (fun k => pochoirref40_u16.f k s p) (u16At s p) := fun p hp hq => by
    have hr := u16At_rng s p
    refine Ev.congr (g := fun k => pochoirref40_u16.f k s p) (fun k => by unfold pochoirref40_u16.f; rfl) (Ev.bind (ru16_ev hp hq hs) ?_)
    simp only []
    rw [wid (by omega) (by omega)]
    exact Ev.now _
  unfold parseV
  by_cases h1 : g < 1
  · rw [if_pos (.inl h1)]
    exact Ev.congr (g := fun k => pochoirref40_Parse.f k s g) (fun k => by unfold pochoirref40_Parse.f; rw [if_pos h1]) jt
  by_cases h2 : g > 1024
  · rw [if_pos (.inr h2)]
    exact Ev.congr (g := fun k => pochoirref40_Parse.f k s g) (fun k => by unfold pochoirref40_Parse.f; rw [if_neg h1, decide_eq_true h2]) jt
  rw [if_neg (by omega)]
  refine Ev.congr (g := fun k => pochoirref40_Parse.f k s g) (f := fun k => pochoirref40_Parse.j0 k s g false) (fun k => by unfold pochoirref40_Parse.f; rw [if_neg h1, decide_eq_false h2]) ?_
  refine Ev.step (fun k => by simp only [pochoirref40_Parse.j0]; rw [if_neg (by decide)]) ?_
  by_cases h3 : (s.size : Int) < 18
  · rw [if_pos h3]
    exact pos_ h3 (Ev.now _)
  rw [if_neg h3]
  have hr := u16At_rng s 10
  refine neg_ h3 (Ev.bind (u 10 (by omega) (by omega)) ?_)
  by_cases h4 : u16At s 10 > 4096
  · rw [if_pos h4]
    exact pos_ h4 (Ev.now _)
  rw [if_neg h4]
  obtain ⟨n, hn⟩ := Int.eq_ofNat_of_zero_le hr.1
  rw [hn] at h4 ⊢
  have hN : n ≤ 4096 := by omega
  have w : wrap64 (18 + wrap64 (6 * (n : Int))) = 18 + 6 * (n : Int) := wmul (by omega) (by omega) (by decide) (by decide)
  have w14 : wrap64 (14 + wrap64 (6 * (n : Int))) = 14 + 6 * (n : Int) := wmul (by omega) (by omega) (by decide) (by decide)
  refine neg_ h4 ?_
  simp only [Option.bind_some]
  refine Ev.bind (three_ev hN) (pos_ (by rw [s3_len]; simp) ?_)
  rw [w14]
  have eh : ([0, 1, 0, 14 + 6 * (n : Int), 1, (n : Int)] ++ s3 n : List Int) = hdr n := rfl
  rw [eh]
  have key : ∀ (m i : Nat), 9 - i = m → i ≤ 9 → Ev (fun k => pochoirref40_Parse.l0 k s g (n : Int) (hdr n) i) (if allH s n i m = true then (if (s.size : Int) < 18 + 6 * (n : Int) then ([], 3) else loopV g s n []) else ([], 4)) := by
    intro m
    induction m with
    | zero =>
      intro i h1 h2
      have : allH s n i 0 = true := rfl
      rw [if_pos this]
      refine Ev.step (fun k => by simp only [pochoirref40_Parse.l0]; rw [if_neg (by omega), w]) ?_
      by_cases h6 : (s.size : Int) < 18 + 6 * (n : Int)
      · rw [if_pos h6]
        exact pos_ h6 (Ev.now _)
      rw [if_neg h6]
      exact neg_ h6 (rparse_loop g s n hN hs (by omega) n 0 [] rfl (by omega) (by omega))
    | succ m ih =>
      intro i h1 h2
      have ea : allH s n i (m + 1) = (decide (u16At s (2 * (i : Int)) = rd (hdr n) i) && allH s n (i + 1) m) := by simp [allH, List.range'_succ]
      have w2 : wrap64 (2 * (i : Int)) = 2 * (i : Int) := wid (by omega) (by omega)
      refine Ev.step (fun k => by simp only [pochoirref40_Parse.l0]; rw [if_pos (by omega), w2]) (Ev.bind (u (2 * (i : Int)) (by omega) (by omega)) (pos_ (show (0 : Int) ≤ (i : Int) by omega) (pos_ (show (i : Int) < ((hdr n).length : Int) by rw [hdr_len]; omega) ?_)))
      rw [ea]
      by_cases c : u16At s (2 * (i : Int)) = rd (hdr n) i
      · refine pos_ c ?_
        rw [decide_eq_true c, Bool.true_and, wup (by omega)]
        exact ih (i + 1) (by omega) (by omega)
      · refine neg_ c ?_
        rw [decide_eq_false c, Bool.false_and]
        exact Ev.now _
  rw [Int.toNat_natCast]
  exact key 9 0 rfl (by omega)
theorem sgn_rng (s : ByteArray) (i : Int) : -32768 ≤ sgn (u16At s i) ∧ sgn (u16At s i) ≤ 32767 := by
  have := u16At_rng s i
  unfold sgn
  split <;> omega
theorem allB_iff (g : Int) (l : List S41) : allB g l 0 l.length = true ↔ ∀ i, i < l.length → okAt g l i = true := by
  simp only [allB, List.all_eq_true, List.mem_range'_1]
  exact ⟨fun h i hi => h i (by omega), fun h i hi => h i (by omega)⟩
theorem loop_may (g : Int) (s : ByteArray) (hg : 1 ≤ g ∧ g ≤ 1024) : ∀ (m : Nat) (acc : List S41), acc.length + m ≤ 4096 → allB g acc 0 acc.length = true → (loopV g s m acc).2 = 0 → mayB g (loopV g s m acc).1 = true
  | 0, acc, h, ha, _ => by
    show mayB g acc = true
    unfold mayB
    rw [ha, decide_eq_true (by omega)]
    rfl
  | m + 1, acc, h, ha, h2 => by
    simp only [loopV] at h2 ⊢
    by_cases c : okE g acc (entry s acc.length) = true
    · rw [if_pos c] at h2 ⊢
      refine loop_may g s hg m _ (by simp; omega) ?_ h2
      rw [allB_iff] at ha ⊢
      intro i hi
      simp at hi
      by_cases hl : i < acc.length
      · have := ha i hl
        unfold okAt at this ⊢
        rw [app_left acc _ i hl]
        by_cases h0 : 0 < i
        · rw [prev_app acc _ i h0 (by omega)]
          exact this
        · have z : (i == 0) = true := by simp; omega
          rw [z, Bool.true_or] at this ⊢
          exact this
      · obtain rfl : i = acc.length := by omega
        unfold okAt
        rw [rise_app, app_here]
        unfold okE at c
        simp only [Bool.and_eq_true, decide_eq_true_eq] at c
        rw [c.2, Bool.and_true, decide_eq_true_eq]
        have r1 := u16At_rng s (18 + 6 * (acc.length : Int))
        have r2 := u16At_rng s (20 + 6 * (acc.length : Int))
        have r3 := sgn_rng s (22 + 6 * (acc.length : Int))
        have := c.1
        simp only [entry] at this ⊢
        omega
    · rw [if_neg c] at h2
      simp at h2
theorem parse_may (g : Int) (s : ByteArray) (h : (parseV g s).2 = 0) : mayB g (parseV g s).1 = true := by
  have hr := u16At_rng s 10
  unfold parseV at h ⊢
  by_cases h1 : g < 1 ∨ g > 1024
  · rw [if_pos h1] at h
    simp at h
  rw [if_neg h1] at h ⊢
  by_cases h3 : (s.size : Int) < 18
  · rw [if_pos h3] at h
    simp at h
  rw [if_neg h3] at h ⊢
  by_cases h4 : u16At s 10 > 4096
  · rw [if_pos h4] at h
    simp at h
  rw [if_neg h4] at h ⊢
  by_cases h5 : allH s (u16At s 10) 0 9 = true
  · rw [if_pos h5] at h ⊢
    by_cases h6 : (s.size : Int) < 18 + 6 * u16At s 10
    · rw [if_pos h6] at h
      simp at h
    rw [if_neg h6] at h ⊢
    exact loop_may g s (by omega) _ [] (by simp; omega) rfl h
  · rw [if_neg h5] at h
    simp at h
theorem loop_len (g : Int) (s : ByteArray) : ∀ (m : Nat) (acc : List S41), (loopV g s m acc).1.length ≤ acc.length + m
  | 0, acc => Nat.le_refl _
  | m + 1, acc => by
    simp only [loopV]
    split
    · have := loop_len g s m (acc ++ [entry s acc.length])
      simp at this
      omega
    · simp
theorem parse_len (g : Int) (s : ByteArray) : (parseV g s).1.length ≤ 9223372036854775807 := by
  have hr := u16At_rng s 10
  unfold parseV
  split
  · simp
  split
  · simp
  split
  · simp
  split
  · split
    · simp
    · have := loop_len g s (u16At s 10).toNat []
      simp at this
      omega
  · simp
theorem body_at : ∀ (l : List S41) (i : Nat) (h : i < l.length), (body l).getD (3 * i) 0 = l[i].f0 ∧ (body l).getD (3 * i + 1) 0 = l[i].f1 ∧ (body l).getD (3 * i + 2) 0 = l[i].f2
  | [], i, h => by simp at h
  | x :: l, 0, _ => by simp [body]
  | x :: l, i + 1, h => by
    have ih := body_at l i (by simpa using h)
    have e : 3 * (i + 1) = 3 * i + 1 + 1 + 1 := by omega
    rw [e]
    simpa [body] using ih
theorem parse_make (l : List S41) (h : mayB 1024 l = true) : parseV 1024 (makeV l).1 = (l, 0) := by
  unfold makeV
  rw [if_pos h]
  simp only [mayB, Bool.and_eq_true, decide_eq_true_eq] at h
  have hn : l.length ≤ 4096 := h.1.2.2
  have hb := h.2
  rw [allB_iff] at hb
  simp only []
  generalize hS : encL (hdr l.length ++ body l) = s
  have hz : s.size = 18 + 6 * l.length := by rw [← hS, encL_size, List.length_append, hdr_len, body_len]; omega
  have uat : ∀ j : Nat, j < 9 + 3 * l.length → u16At s (2 * (j : Int)) = (hdr l.length ++ body l).getD j 0 % 65536 := fun j hj => by
    rw [← hS, u16At_enc _ _ (by omega) (by rw [List.length_append, hdr_len, body_len]; omega), Int.toNat_natCast]
  have uh : ∀ j : Nat, j < 9 → u16At s (2 * (j : Int)) = rd (hdr l.length) j := fun j hj => by
    rw [uat j (by omega), ← hdr_mod hn j hj, rd_def]
    congr 1
    exact getD_left _ _ _ (by rw [hdr_len]; exact hj)
  have ub : ∀ j : Nat, j < 3 * l.length → u16At s (18 + 2 * (j : Int)) = (body l).getD j 0 % 65536 := fun j hj => by
    have := uat (9 + j) (by omega)
    rw [show (2 * ((9 + j : Nat) : Int)) = 18 + 2 * (j : Int) by omega] at this
    rw [this]
    congr 1
    rw [getD_right _ _ _ (by rw [hdr_len]; omega), hdr_len]
    congr 1
    omega
  have u10 : u16At s 10 = l.length := uh 5 (by omega)
  unfold parseV
  rw [if_neg (by omega), if_neg (by omega), u10, if_neg (by omega), if_pos (by
    simp only [allH, List.all_eq_true, decide_eq_true_eq, List.mem_range'_1]
    intro j hj
    exact uh j (by omega)), if_neg (by omega), Int.toNat_natCast]
  have key : ∀ (m i : Nat), l.length - i = m → i ≤ l.length → loopV 1024 s m (l.take i) = (l, 0) := by
    intro m
    induction m with
    | zero =>
      intro i h1 h2
      have : l.take i = l := List.take_of_length_le (by omega)
      rw [this]
      rfl
    | succ m ih =>
      intro i h1 h2
      have tl : (l.take i).length = i := by rw [List.length_take]; omega
      have hi : i < l.length := by omega
      have ho := hb i hi
      have hrd := rd41_at l i hi
      obtain ⟨b0, b1, b2⟩ := body_at l i hi
      unfold okAt at ho
      simp only [Bool.and_eq_true, decide_eq_true_eq] at ho
      rw [hrd] at ho
      have he : entry s i = l[i] := by
        have v0 := ub (3 * i) (by omega)
        have v1 := ub (3 * i + 1) (by omega)
        have v2 := ub (3 * i + 2) (by omega)
        rw [b0, show (18 + 2 * ((3 * i : Nat) : Int)) = 18 + 6 * (i : Int) by omega] at v0
        rw [b1, show (18 + 2 * ((3 * i + 1 : Nat) : Int)) = 20 + 6 * (i : Int) by omega] at v1
        rw [b2, show (18 + 2 * ((3 * i + 2 : Nat) : Int)) = 22 + 6 * (i : Int) by omega] at v2
        unfold entry sgn
        rw [v0, v1, v2]
        have q := ho.1
        have q0 : l[i].f0 % 65536 = l[i].f0 := by omega
        have q1 : l[i].f1 % 65536 = l[i].f1 := by omega
        have q2 : (if l[i].f2 % 65536 ≥ 32768 then l[i].f2 % 65536 - 65536 else l[i].f2 % 65536) = l[i].f2 := by split <;> omega
        rw [q0, q1, q2]
      have htk : l.take i ++ [l[i]] = l.take (i + 1) := (List.take_succ_eq_append_getElem hi).symm
      simp only [loopV, tl]
      rw [he, htk, if_pos ?_]
      · exact ih (i + 1) (by omega) (by omega)
      unfold okE
      rw [tl, decide_eq_true ⟨ho.1.2.1, ho.1.2.2.2.1⟩, Bool.true_and]
      have := ho.2
      by_cases h0 : 0 < i
      · have pe : rd_T41 (l.take i) ((i : Int) - 1) = rd_T41 l ((i : Int) - 1) := by
          have := rd41_at l (i - 1) (by omega)
          have t := rd41_at (l.take i) (i - 1) (by omega)
          rw [show ((i - 1 : Nat) : Int) = (i : Int) - 1 by omega] at this t
          rw [this, t, List.getElem_take]
        rw [pe]
        exact this
      · have z : (i == 0) = true := by simp; omega
        rw [z]
        rfl
  exact key l.length 0 rfl (by omega)
end Go.Proofs.Ythnojbbfmcapnaa.Pure
