/- Pure: numbers in bytes, written and read: the program's octet and the reference's agree. -/
import Derived.Test.YthnojbbfmcapnaaPr7
import Derived.Test.YthnojbbfmcapnaaPr15
import Derived.Test.YthnojbbfmcapnaaPr16
import Derived.Test.YthnojbbfmcapnaaPr17
import Derived.Test.YthnojbbfmcapnaaPr24
import Derived.Test.YthnojbbfmcapnaaPr29
import Derived.Test.YthnojbbfmcapnaaPr30
namespace Go.Proofs.Ythnojbbfmcapnaa.Pure
set_option linter.unusedVariables false
set_option linter.unusedSimpArgs false
open Go.RowKit Go.Proofs.Ythnojbbfmcapnaa.Pr
open Go.Proofs.YthnojbbfmcapnaaW.PrintWords Go.Proofs.YthnojbbfmcapnaaW.PrintLast Go.Proofs.YthnojbbfmcapnaaW.PrintMore
theorem wid {n : Int} (h1 : -9223372036854775808 ≤ n) (h2 : n ≤ 9223372036854775807) : wrap64 n = n := by unfold wrap64; omega
theorem u16w (n : Int) : IntKind.u16.wrap n = n % 65536 := by simp [IntKind.wrap, IntKind.signed, IntKind.bits]
theorem i16w {n : Int} (h : 0 ≤ n ∧ n ≤ 65535) : IntKind.i16.wrap n = if n ≥ 32768 then n - 65536 else n := by
  simp [IntKind.wrap, IntKind.signed, IntKind.bits]
  split <;> omega
theorem bt_rng (s : ByteArray) (i : Int) : 0 ≤ bt s i ∧ bt s i ≤ 255 := by
  unfold bt
  split
  · rename_i h
    have := (s[i.toNat]'h).toNat_lt
    omega
  · omega
theorem son_append (xs ys : List Int) : strOfNums xs ++ strOfNums ys = strOfNums (xs ++ ys) := by
  apply ByteArray.ext
  simp [strOfNums]
theorem son_size (xs : List Int) : (strOfNums xs).size = xs.length := by simp [strOfNums, ByteArray.size]
theorem son_nil : strOfNums [] = ⟨#[]⟩ := rfl
theorem bt_son (xs : List Int) (i : Int) (h0 : 0 ≤ i) (h : i < (xs.length : Int)) (hr : 0 ≤ xs.getD i.toNat 0 ∧ xs.getD i.toNat 0 ≤ 255) : bt (strOfNums xs) i = xs.getD i.toNat 0 := by
  have hi : i.toNat < xs.length := by omega
  have hs : i.toNat < (strOfNums xs).size := by rw [son_size]; exact hi
  unfold bt
  rw [dif_pos hs]
  have e : (strOfNums xs)[i.toNat]'hs = UInt8.ofNat (xs[i.toNat]).toNat := by
    show (strOfNums xs).data[i.toNat]'_ = _
    simp [strOfNums]
  rw [e]
  have g : xs.getD i.toNat 0 = xs[i.toNat] := by simp [List.getD, hi]
  rw [g] at hr ⊢
  rw [UInt8.toNat_ofNat']
  omega
/-- A number's two bytes. -/
def two (v : Int) : List Int := [(v / 256) % 256, v % 256]
def encL (xs : List Int) : ByteArray := strOfNums (xs.flatMap two)
theorem encL_append (xs ys : List Int) : encL xs ++ encL ys = encL (xs ++ ys) := by unfold encL; rw [son_append, List.flatMap_append]
theorem flat_len (xs : List Int) : (xs.flatMap two).length = 2 * xs.length := by
  induction xs with
  | nil => rfl
  | cons x xs ih =>
    simp only [List.flatMap_cons, List.length_append, List.length_cons, ih]
    simp [two]
    omega
theorem encL_size (xs : List Int) : (encL xs).size = 2 * xs.length := by unfold encL; rw [son_size, flat_len]
/-- What two bytes say. -/
def u16At (s : ByteArray) (i : Int) : Int := bt s i * 256 + bt s (i + 1)
theorem u16At_rng (s : ByteArray) (i : Int) : 0 ≤ u16At s i ∧ u16At s i ≤ 65535 := by
  have h1 := bt_rng s i
  have h2 := bt_rng s (i + 1)
  unfold u16At
  omega
def sgn (v : Int) : Int := if v ≥ 32768 then v - 65536 else v
theorem flat_at : ∀ (xs : List Int) (j : Nat), j < xs.length → (xs.flatMap two).getD (2 * j) 0 = (xs.getD j 0 / 256) % 256 ∧ (xs.flatMap two).getD (2 * j + 1) 0 = xs.getD j 0 % 256
  | [], j, h => by simp at h
  | x :: xs, 0, _ => by simp [two]
  | x :: xs, j + 1, h => by
    have ih := flat_at xs j (by simpa using h)
    have e : 2 * (j + 1) = 2 * j + 1 + 1 := by omega
    rw [e]
    simpa [two] using ih
theorem u16At_enc (xs : List Int) (j : Int) (h0 : 0 ≤ j) (h : j < (xs.length : Int)) : u16At (encL xs) (2 * j) = xs.getD j.toNat 0 % 65536 := by
  obtain ⟨h1, h2⟩ := flat_at xs j.toNat (by omega)
  have e1 : (2 * j).toNat = 2 * j.toNat := by omega
  have e2 : (2 * j + 1).toNat = 2 * j.toNat + 1 := by omega
  have l := flat_len xs
  unfold u16At encL
  rw [bt_son _ _ (by omega) (by omega) (by rw [e1, h1]; omega), bt_son _ _ (by omega) (by omega) (by rw [e2, h2]; omega), e1, e2, h1, h2]
  omega
theorem bt_extract (s : ByteArray) (a b j : Int) (ha : 0 ≤ a) (hj : 0 ≤ j) (hb : a + j < b) (hs : b ≤ (s.size : Int)) : bt (s.extract a.toNat b.toNat) j = bt s (a + j) := by
  have e : (a + j).toNat = a.toNat + j.toNat := by omega
  have hz : (s.extract a.toNat b.toNat).size = b.toNat - a.toNat := by rw [ByteArray.size_extract]; omega
  unfold bt
  rw [dif_pos (by rw [hz]; omega), dif_pos (by omega)]
  have : (s.extract a.toNat b.toNat)[j.toNat]'(by rw [hz]; omega) = s[(a + j).toNat]'(by omega) := by
    rw [ByteArray.getElem_extract]
    congr 1
    exact e.symm
  rw [this]
theorem or_bytes {a b : Int} (ha : 0 ≤ a ∧ a ≤ 16777215) (hb : 0 ≤ b ∧ b ≤ 255) : Go.bits .or .u32 ((a * 256) % 4294967296) (b % 4294967296) = a * 256 + b := by
  obtain ⟨m, rfl⟩ := Int.eq_ofNat_of_zero_le ha.1
  obtain ⟨n, rfl⟩ := Int.eq_ofNat_of_zero_le hb.1
  have e1 : ((m : Int) * 256) % 4294967296 = ((m * 256 : Nat) : Int) := by omega
  have e2 : ((n : Int)) % 4294967296 = (n : Int) := by omega
  rw [e1, e2]
  have e3 : m * 256 ||| n = m * 256 + n := by
    have := Nat.shiftLeft_add_eq_or_of_lt (show n < 2 ^ 8 by omega) m
    rw [Nat.shiftLeft_eq] at this
    exact this.symm
  have e4 : Go.bits .or .u32 ((m * 256 : Nat) : Int) (n : Int) = ((m * 256 ||| n : Nat) : Int) := by
    have q1 : BitVec.ofInt 32 ((m * 256 : Nat) : Int) = BitVec.ofNat 32 (m * 256) := BitVec.ofInt_natCast ..
    have q2 : BitVec.ofInt 32 (n : Int) = BitVec.ofNat 32 n := BitVec.ofInt_natCast ..
    have q3 : (BitVec.ofNat 32 (m * 256) ||| BitVec.ofNat 32 n).toNat = m * 256 ||| n := by
      rw [BitVec.toNat_or, BitVec.toNat_ofNat, BitVec.toNat_ofNat, Nat.mod_eq_of_lt (by omega), Nat.mod_eq_of_lt (by omega)]
    show IntKind.u32.wrap ((BitVec.ofInt 32 _ ||| BitVec.ofInt 32 _).toNat) = _
    rw [q1, q2, q3, e3]
    simp [IntKind.bits, IntKind.wrap, IntKind.signed]
    omega
  rw [e4, e3]
  omega
/-- Some bytes' number. -/
def valB (s : ByteArray) : Nat → Int
  | 0 => 0
  | m + 1 => valB s m * 256 + bt s m
theorem valB_rng (s : ByteArray) : ∀ m : Nat, 0 ≤ valB s m ∧ valB s m < 256 ^ m
  | 0 => by simp [valB]
  | m + 1 => by
    have ih := valB_rng s m
    have hb := bt_rng s m
    simp only [valB, Int.pow_succ]
    omega
theorem valB_le (s : ByteArray) (m : Nat) (h : m ≤ 3) : 0 ≤ valB s m ∧ valB s m ≤ 16777215 := by
  have h1 := valB_rng s m
  have : m = 0 ∨ m = 1 ∨ m = 2 ∨ m = 3 := by omega
  rcases this with rfl | rfl | rfl | rfl <;> simp at h1 <;> omega
theorem number_ev (s : ByteArray) (h : s.size ≤ 4) : Ev (fun k => octet_number.f k s) (valB s s.size) := by
  have key : ∀ (m i : Nat), s.size - i = m → i ≤ s.size → Ev (fun k => octet_number.l0 k s (valB s i) (s.size : Int) i) (valB s s.size) := by
    intro m
    induction m with
    | zero =>
      intro i h1 h2
      obtain rfl : i = s.size := by omega
      exact Ev.step (fun k => by simp only [octet_number.l0]; rw [if_neg (by omega)]) (Ev.now _)
    | succ m ih =>
      intro i h1 h2
      have hb := bt_rng s i
      have hv := valB_le s i (by omega)
      have e : wrap64 ((i : Int) + 1) = ((i + 1 : Nat) : Int) := by rw [wid (by omega) (by omega)]; rfl
      refine Ev.step (fun k => ?_) (ih (i + 1) (by omega) (by omega))
      simp only [octet_number.l0]
      rw [if_pos (by omega), if_pos (by omega), if_pos (by omega), or_bytes hv hb, e]
      rfl
  exact key s.size 0 rfl (by omega)
theorem rnumber_ev (s : ByteArray) (h : s.size ≤ 4) : Ev (fun k => pochoirref07_number.f k s) (valB s s.size) := by
  have key : ∀ (m i : Nat), s.size - i = m → i ≤ s.size → Ev (fun k => pochoirref07_number.l0 k s (valB s i) i) (valB s s.size) := by
    intro m
    induction m with
    | zero =>
      intro i h1 h2
      obtain rfl : i = s.size := by omega
      exact Ev.step (fun k => by simp only [pochoirref07_number.l0]; rw [if_neg (by omega)]) (Ev.now _)
    | succ m ih =>
      intro i h1 h2
      have hb := bt_rng s i
      have hv := valB_le s i (by omega)
      have e : wrap64 ((i : Int) + 1) = ((i + 1 : Nat) : Int) := by rw [wid (by omega) (by omega)]; rfl
      have e2 : (((valB s i * 256) % 4294967296) + (bt s i % 4294967296)) % 4294967296 = valB s (i + 1) := by simp only [valB]; omega
      refine Ev.step (fun k => ?_) (ih (i + 1) (by omega) (by omega))
      simp only [pochoirref07_number.l0]
      rw [if_pos (by omega), if_pos (by omega), e2, e]
  exact key s.size 0 rfl (by omega)
theorem cut_in {s : ByteArray} {i n : Int} (h0 : 0 ≤ i) (h1 : 0 ≤ n) (h : i + n ≤ (s.size : Int)) (hs : (s.size : Int) ≤ 9223372036854775807) : octet_Cut.f s i n = some (s.extract i.toNat (i + n).toNat, 0) := by
  unfold octet_Cut.f
  rw [wid (n := (s.size : Int) - i) (by omega) (by omega), wid (n := i + n) (by omega) (by omega), if_neg (by omega), if_neg (by omega), if_neg (by omega), if_neg (by omega), if_pos h0, if_pos (by omega), if_pos h]
theorem cut_out {s : ByteArray} {i n : Int} (h : i < 0 ∨ n < 0 ∨ (s.size : Int) < i + n) (hs : (s.size : Int) ≤ 9223372036854775807) : octet_Cut.f s i n = some (⟨#[]⟩, 3) := by
  unfold octet_Cut.f
  by_cases h1 : i < 0
  · rw [if_pos h1]
  rw [if_neg h1]
  by_cases h2 : n < 0
  · rw [if_pos h2]
  rw [if_neg h2]
  by_cases h3 : i > (s.size : Int)
  · rw [if_pos h3]
  rw [if_neg h3, wid (n := (s.size : Int) - i) (by omega) (by omega), if_pos (by omega)]
theorem rcut_eq (s : ByteArray) (i n : Int) : pochoirref07_Cut.f s i n = octet_Cut.f s i n := rfl
theorem ext_size {s : ByteArray} {i n : Int} (h0 : 0 ≤ i) (h1 : 0 ≤ n) (h : i + n ≤ (s.size : Int)) : (s.extract i.toNat (i + n).toNat).size = n.toNat := by rw [ByteArray.size_extract]; omega
theorem val2 {s : ByteArray} {i : Int} (h0 : 0 ≤ i) (h : i + 2 ≤ (s.size : Int)) : valB (s.extract i.toNat (i + 2).toNat) 2 = u16At s i := by
  simp only [valB]
  rw [bt_extract s i (i + 2) _ h0 (by omega) (by omega) h, bt_extract s i (i + 2) _ h0 (by omega) (by omega) h]
  unfold u16At
  simp
section
variable {s : ByteArray} {i : Int}
theorem u16_ev (h0 : 0 ≤ i) (h : i + 2 ≤ (s.size : Int)) (hs : (s.size : Int) ≤ 9223372036854775807) : Ev (fun k => octet_U16.f k s i) (u16At s i, 0) := by
  have hz := ext_size (n := 2) h0 (by omega) h
  have hn := number_ev (s.extract i.toNat (i + 2).toNat) (by rw [hz]; decide)
  rw [hz, show (2 : Int).toNat = 2 from rfl, val2 h0 h] at hn
  have hr := u16At_rng s i
  refine Ev.congr (g := fun k => octet_U16.f k s i) (fun k => by unfold octet_U16.f; rw [cut_in h0 (by omega) h hs, Option.bind_some]) (Ev.bind hn ?_)
  simp only []
  rw [u16w, Int.emod_eq_of_lt hr.1 (by omega)]
  exact Ev.now _
theorem ru16_ev (h0 : 0 ≤ i) (h : i + 2 ≤ (s.size : Int)) (hs : (s.size : Int) ≤ 9223372036854775807) : Ev (fun k => pochoirref07_U16.f k s i) (u16At s i, 0) := by
  have hz := ext_size (n := 2) h0 (by omega) h
  have hn := rnumber_ev (s.extract i.toNat (i + 2).toNat) (by rw [hz]; decide)
  rw [hz, show (2 : Int).toNat = 2 from rfl, val2 h0 h] at hn
  have hr := u16At_rng s i
  refine Ev.congr (g := fun k => pochoirref07_U16.f k s i) (fun k => by unfold pochoirref07_U16.f; rw [rcut_eq, cut_in h0 (by omega) h hs, Option.bind_some]) (Ev.bind hn ?_)
  simp only []
  rw [u16w, Int.emod_eq_of_lt hr.1 (by omega)]
  exact Ev.now _
theorem take_in (n : Int) (h0 : 0 ≤ i) (h1 : 0 ≤ n) (h : i + n ≤ (s.size : Int)) (hs : (s.size : Int) ≤ 9223372036854775807) : octet_Reader_take.f s i false n = some (s.extract i.toNat (i + n).toNat, s, i + n, false) := by
  unfold octet_Reader_take.f
  rw [if_neg (by decide), cut_in h0 h1 h hs, Option.bind_some, if_pos rfl, wid (by omega) (by omega)]
theorem rtake_in (n : Int) (h0 : 0 ≤ i) (h1 : 0 ≤ n) (h : i + n ≤ (s.size : Int)) (hs : (s.size : Int) ≤ 9223372036854775807) : pochoirref07_Reader_Take.f s i false n = some (s.extract i.toNat (i + n).toNat, s, i + n, false) := by
  unfold pochoirref07_Reader_Take.f
  rw [rcut_eq, cut_in h0 h1 h hs, Option.bind_some, if_neg (by decide), if_pos rfl, wid (by omega) (by omega)]
theorem skip_in (n : Int) (h0 : 0 ≤ i) (h1 : 0 ≤ n) (h : i + n ≤ (s.size : Int)) (hs : (s.size : Int) ≤ 9223372036854775807) : octet_Reader_Skip.f s i false n = some (s, i + n, false) := by
  unfold octet_Reader_Skip.f
  rw [take_in n h0 h1 h hs, Option.bind_some]
theorem readU16_ev (h0 : 0 ≤ i) (h : i + 2 ≤ (s.size : Int)) (hs : (s.size : Int) ≤ 9223372036854775807) : Ev (fun k => octet_Reader_U16.f k s i false) (u16At s i, s, i + 2, false) := by
  have hz := ext_size (n := 2) h0 (by omega) h
  have hn := number_ev (s.extract i.toNat (i + 2).toNat) (by rw [hz]; decide)
  rw [hz, show (2 : Int).toNat = 2 from rfl, val2 h0 h] at hn
  have hr := u16At_rng s i
  refine Ev.congr (g := fun k => octet_Reader_U16.f k s i false) (fun k => by unfold octet_Reader_U16.f; rw [take_in 2 h0 (by omega) h hs, Option.bind_some]) (Ev.bind hn ?_)
  simp only []
  rw [u16w, Int.emod_eq_of_lt hr.1 (by omega)]
  exact Ev.now _
theorem readI16_ev (h0 : 0 ≤ i) (h : i + 2 ≤ (s.size : Int)) (hs : (s.size : Int) ≤ 9223372036854775807) : Ev (fun k => octet_Reader_I16.f k s i false) (sgn (u16At s i), s, i + 2, false) := by
  have hr := u16At_rng s i
  refine Ev.congr (g := fun k => octet_Reader_I16.f k s i false) (fun k => by unfold octet_Reader_I16.f; rfl) (Ev.bind (readU16_ev h0 h hs) ?_)
  simp only []
  rw [i16w hr]
  exact Ev.now _
theorem rreadI16_ev (h0 : 0 ≤ i) (h : i + 2 ≤ (s.size : Int)) (hs : (s.size : Int) ≤ 9223372036854775807) : Ev (fun k => pochoirref07_Reader_I16.f k s i false) (sgn (u16At s i), s, i + 2, false) := by
  have hz := ext_size (n := 2) h0 (by omega) h
  have hn := rnumber_ev (s.extract i.toNat (i + 2).toNat) (by rw [hz]; decide)
  rw [hz, show (2 : Int).toNat = 2 from rfl, val2 h0 h] at hn
  have hr := u16At_rng s i
  have num : Ev (fun k => pochoirref07_Reader_Num.f k s i false 2) (u16At s i, s, i + 2, false) := by
    refine Ev.congr (g := fun k => pochoirref07_Reader_Num.f k s i false 2) (fun k => by unfold pochoirref07_Reader_Num.f; rw [rtake_in 2 h0 (by omega) h hs, Option.bind_some]) (Ev.bind hn (Ev.now _))
  refine Ev.congr (g := fun k => pochoirref07_Reader_I16.f k s i false) (fun k => by unfold pochoirref07_Reader_I16.f; rfl) (Ev.bind num ?_)
  simp only []
  rw [wid (n := u16At s i) (by omega) (by omega)]
  unfold sgn
  by_cases hc : u16At s i ≥ 32768
  · simp only [if_pos hc]
    rw [wid (by omega) (by omega)]
    exact Ev.now _
  · simp only [if_neg hc]
    exact Ev.now _
end
/-- Two bytes of a number, as the reference puts them. -/
theorem put2_ev (n : Int) (h : 0 ≤ n ∧ n ≤ 4294967295) : Ev (fun k => pochoirref07_Put.f k n 2) (strOfNums [(n / 256) % 256, n % 256]) := by
  have t1 : Int.tmod n 256 = n % 256 := Int.tmod_eq_emod_of_nonneg h.1
  have d1 : Int.tdiv n 256 = n / 256 := Int.tdiv_eq_ediv_of_nonneg h.1
  have t2 : Int.tmod (n / 256) 256 = (n / 256) % 256 := Int.tmod_eq_emod_of_nonneg (by omega)
  have m : n / 256 % 4294967296 = n / 256 := by omega
  refine Ev.congr (g := fun k => pochoirref07_Put.f k n 2) (fun k => by unfold pochoirref07_Put.f; rfl) ?_
  refine Ev.step (f := fun k => pochoirref07_Put.l0 k (n / 256) 2 (strOfNums [n % 256]) 1) (fun k => ?_) ?_
  · simp only [pochoirref07_Put.l0]
    rw [if_pos (by omega), Option.bind_some, if_pos (by rw [son_size]; show (1 : Nat) + 0 ≤ _; omega), t1, d1, m, wid (by omega) (by omega)]
    have : strOfNums [n % 256 % 256] ++ ⟨#[]⟩ = strOfNums [n % 256] := by rw [← son_nil, son_append, Int.emod_emod_of_dvd _ (Int.dvd_refl _)]; rfl
    rw [this]
    rfl
  refine Ev.step (f := fun k => pochoirref07_Put.l0 k ((Int.tdiv (n / 256) 256) % 4294967296) 2 (strOfNums [(n / 256) % 256, n % 256]) 2) (fun k => ?_) ?_
  · simp only [pochoirref07_Put.l0]
    rw [if_pos (by omega), Option.bind_some, if_pos (by rw [son_size, son_size]; show (1 : Nat) + 1 ≤ _; omega), t2, wid (by omega) (by omega)]
    have : strOfNums [n / 256 % 256 % 256] ++ strOfNums [n % 256] = strOfNums [(n / 256) % 256, n % 256] := by rw [son_append, Int.emod_emod_of_dvd _ (Int.dvd_refl _)]; rfl
    rw [this]
    rfl
  exact Ev.step (fun k => by simp only [pochoirref07_Put.l0]; rw [if_neg (by omega)]) (Ev.now _)
theorem p16_two (n : Int) : octet_P16.f (IntKind.u16.wrap n) = some (encL [n]) := by
  unfold octet_P16.f encL
  rw [u16w]
  simp only [List.flatMap_cons, List.flatMap_nil, List.append_nil, two]
  have e1 : n % 65536 / 256 % 256 = n / 256 % 256 := by omega
  have e2 : n % 65536 % 256 = n % 256 := by omega
  rw [e1, e2]
theorem rput16_two (n : Int) : Ev (fun k => pochoirref07_Put.f k ((IntKind.u16.wrap n) % 4294967296) 2) (encL [n]) := by
  have h := put2_ev ((IntKind.u16.wrap n) % 4294967296) (by rw [u16w]; omega)
  have e : strOfNums [((IntKind.u16.wrap n) % 4294967296 / 256) % 256, (IntKind.u16.wrap n) % 4294967296 % 256] = encL [n] := by
    unfold encL
    simp only [List.flatMap_cons, List.flatMap_nil, List.append_nil, two]
    rw [u16w]
    have e1 : n % 65536 % 4294967296 / 256 % 256 = n / 256 % 256 := by omega
    have e2 : n % 65536 % 4294967296 % 256 = n % 256 := by omega
    rw [e1, e2]
  rw [← e]
  exact h
end Go.Proofs.Ythnojbbfmcapnaa.Pure
