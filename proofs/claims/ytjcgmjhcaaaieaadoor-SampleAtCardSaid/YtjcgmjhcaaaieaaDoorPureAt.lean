/- Pure: a sample, as the program and as the reference reckon it. -/
import Derived.Test.YtjcgmjhcaaaieaaDoorPr10
import Derived.Test.YtjcgmjhcaaaieaaDoorPr11
import Derived.Test.YtjcgmjhcaaaieaaDoorPr12
import Derived.Test.YtjcgmjhcaaaieaaDoorPr13
import Derived.Test.YtjcgmjhcaaaieaaDoorPr14
import Derived.Test.YtjcgmjhcaaaieaaDoorPr15
import Derived.Test.YtjcgmjhcaaaieaaDoorPr35
import Derived.Test.YtjcgmjhcaaaieaaDoorPr36
import Derived.Test.YtjcgmjhcaaaieaaDoorPr37
import Derived.Test.YtjcgmjhcaaaieaaDoorPr38
import Derived.Test.YtjcgmjhcaaaieaaDoorPureMay
namespace Go.Proofs.YtjcgmjhcaaaieaaDoor.Pure
set_option linter.unusedVariables false
set_option linter.unusedSimpArgs false
open Go.RowKit Go.Proofs.YtjcgmjhcaaaieaaDoor.Pr
open Go.Proofs.YtjcgmjhcaaaieaaDoorW.PrintWords Go.Proofs.YtjcgmjhcaaaieaaDoorW.PrintLast Go.Proofs.YtjcgmjhcaaaieaaDoorW.PrintMore
theorem wid {n : Int} (h1 : -9223372036854775808 ≤ n) (h2 : n ≤ 9223372036854775807) : wrap64 n = n := by unfold wrap64; omega
theorem bt_rng (s : ByteArray) (i : Int) : 0 ≤ bt s i ∧ bt s i ≤ 255 := by
  unfold bt
  split
  · rename_i h
    have := (s[i.toNat]'h).toNat_lt
    omega
  · omega
/-- What an atlas that may be holds. -/
structure Holds (W H : Int) (gs : List S54) (pages : List ByteArray) : Prop where
  w : 1 ≤ W ∧ W ≤ 1024
  h : 1 ≤ H ∧ H ≤ 1024
  gl : gs.length ≤ 1024
  pl : pages.length ≤ 16
  page : ∀ s ∈ pages, (s.size : Int) = 4 * W * H
  glyph : ∀ g ∈ gs, entryB g W H (pages.length : Int) = true
theorem area_bound {W H : Int} (hw : 1 ≤ W ∧ W ≤ 1024) (hh : 1 ≤ H ∧ H ≤ 1024) : 1 ≤ W * H ∧ W * H ≤ 1048576 := by
  constructor
  · have := Int.mul_le_mul hw.1 hh.1 (by omega) (by omega)
    omega
  · have := Int.mul_le_mul hw.2 hh.2 (by omega) (by omega)
    omega
theorem holds_of {a0 a1 a2 a3 a4 a5 W H : Int} {gs : List S54} {ps : List S84} {pages : List ByteArray} (h : atlasB a0 a1 a2 a3 a4 a5 W H gs ps pages = true) : Holds W H gs pages := by
  unfold atlasB pagesB glyphsB numB at h
  simp only [Bool.and_eq_true, ins_true, decide_eq_true_eq, List.all_eq_true] at h
  obtain ⟨⟨_, _, _, _, _, _, hw, hh, hp, hg⟩, hs, he, _⟩ := h
  obtain ⟨b1, b2⟩ := area_bound hw hh
  refine ⟨hw, hh, by omega, by omega, fun s m => ?_, he⟩
  have e : 4 * W * H = 4 * (W * H) := Int.mul_assoc _ _ _
  rw [hs s m, wid (n := 4 * W) (by omega) (by omega), wid (n := 4 * W * H) (by omega) (by omega)]
/-- A glyph with a cell lies on its page. -/
structure Lies (W H n : Int) (g : S54) : Prop where
  w : 1 ≤ g.f1.f2 ∧ g.f1.f2 ≤ 256
  h : 1 ≤ g.f1.f3 ∧ g.f1.f3 ≤ 256
  p : 0 ≤ g.f2.f0 ∧ g.f2.f0 < n
  x : 0 ≤ g.f2.f1 ∧ g.f2.f1 + g.f1.f2 ≤ W
  y : 0 ≤ g.f2.f2 ∧ g.f2.f2 + g.f1.f3 ≤ H
theorem lies_of {W H n : Int} {g : S54} (hw : 1 ≤ W ∧ W ≤ 1024) (hh : 1 ≤ H ∧ H ≤ 1024) (hn : 0 ≤ n ∧ n ≤ 16) (h : entryB g W H n = true) (h0 : g.f1.f2 ≠ 0) : Lies W H n g := by
  unfold entryB cellB at h
  have e : (g.f1.f2 == 0) = false := by simpa using h0
  have e2 : (g.f1.f0 == 0 && (g.f1.f1 == 0 && (g.f1.f2 == 0 && (g.f1.f3 == 0)))) = false := by rw [e]; simp
  rw [e2] at h
  simp only [Bool.false_or, Bool.and_eq_true, ins_true, Bool.false_eq_true, if_false] at h
  obtain ⟨_, ⟨c1, c2, _, _⟩, p1, p2, p3⟩ := h
  rw [wid (by omega) (by omega)] at p1 p2 p3
  exact ⟨c1, c2, by omega, by omega, by omega⟩
/-- A byte of a texel. -/
def tex (s : ByteArray) (W X Y i j c : Int) : Int := bt s (4 * ((Y + j) * W + (X + i)) + c)
/-- Where a texel's bytes lie. -/
theorem index_bound {W H x y : Int} (hw : 1 ≤ W ∧ W ≤ 1024) (hh : 1 ≤ H ∧ H ≤ 1024) (hx : 0 ≤ x ∧ x < W) (hy : 0 ≤ y ∧ y < H) : 0 ≤ y * W ∧ y * W ≤ 1048576 ∧ 0 ≤ y * W + x ∧ y * W + x < W * H := by
  have h1 : 0 ≤ y * W := Int.mul_nonneg hy.1 (by omega)
  have h2 : (y + 1) * W ≤ H * W := Int.mul_le_mul_of_nonneg_right (by omega) (by omega)
  rw [Int.add_mul, Int.one_mul, Int.mul_comm H W] at h2
  have := (area_bound hw hh).2
  omega
theorem texel_of {W H X Y i j : Int} {s : ByteArray} (hw : 1 ≤ W ∧ W ≤ 1024) (hh : 1 ≤ H ∧ H ≤ 1024) (hs : (s.size : Int) = 4 * W * H) (P : Int) (hx : 0 ≤ X + i ∧ X + i < W) (hy : 0 ≤ Y + j ∧ Y + j < H) (hX : 0 ≤ X ∧ X ≤ 1024) :
    sample_sampler_texel.f s W P X Y i j = some (tex s W X Y i j 0, tex s W X Y i j 1, tex s W X Y i j 2, tex s W X Y i j 3) := by
  obtain ⟨b1, b2, b3, b4⟩ := index_bound hw hh hx hy
  have hs' : (s.size : Int) = 4 * (W * H) := by rw [hs, Int.mul_assoc]
  unfold sample_sampler_texel.f
  have e : wrap64 (4 * (wrap64 ((wrap64 ((wrap64 ((wrap64 (Y + j)) * W)) + X)) + i))) = 4 * ((Y + j) * W + (X + i)) := by
    rw [wid (n := Y + j) (by omega) (by omega), wid (n := (Y + j) * W) (by omega) (by omega), wid (n := (Y + j) * W + X) (by omega) (by omega), wid (n := (Y + j) * W + X + i) (by omega) (by omega), wid (by omega) (by omega), Int.add_assoc]
  have ar := (area_bound hw hh).2
  rw [e, wid (n := 4 * ((Y + j) * W + (X + i)) + 1) (by omega) (by omega), wid (n := 4 * ((Y + j) * W + (X + i)) + 2) (by omega) (by omega), wid (n := 4 * ((Y + j) * W + (X + i)) + 3) (by omega) (by omega)]
  rw [if_pos (by omega), if_pos (by omega), if_pos (by omega), if_pos (by omega), if_pos (by omega), if_pos (by omega), if_pos (by omega), if_pos (by omega)]
  have r : ∀ c, wrap64 (bt s c) = bt s c := fun c => by have := bt_rng s c; exact wid (by omega) (by omega)
  rw [r, r, r, r]
  unfold tex
  rw [Int.add_zero]
theorem rtexel_of {a0 a1 a2 a3 a4 a5 W H : Int} {gs : List S54} {ps : List S84} {pages : List ByteArray} (hB : atlasB a0 a1 a2 a3 a4 a5 W H gs ps pages = true) {X Y i j : Int} (p : Nat) (hp : p < pages.length) (hx : 0 ≤ X + i ∧ X + i < W) (hy : 0 ≤ Y + j ∧ Y + j < H) (k : Nat) (hk : pages.length + gs.length + ps.length + 5 ≤ k) :
    pochoirref30_Texel.f k a0 a1 a2 a3 a4 a5 W H gs ps pages p (X + i) (Y + j) = some (tex pages[p] W X Y i j 0, tex pages[p] W X Y i j 1, tex pages[p] W X Y i j 2, tex pages[p] W X Y i j 3, 0) := by
  have hH := holds_of hB
  obtain ⟨b1, b2, b3, b4⟩ := index_bound hH.w hH.h hx hy
  have hs : ((pages[p]).size : Int) = 4 * W * H := hH.page _ (List.getElem_mem hp)
  have hs' : ((pages[p]).size : Int) = 4 * (W * H) := by rw [hs, Int.mul_assoc]
  have ar := (area_bound hH.w hH.h).2
  have hw := hH.w
  have hh := hH.h
  have hpl := hH.pl
  unfold pochoirref30_Texel.f
  rw [(may_b a0 a1 a2 a3 a4 a5 W H gs ps pages k hk).2, hB, Option.bind_some, if_pos rfl, in_ins, Option.bind_some, wid (by omega) (by omega), if_pos (ins_true.2 (by omega)), in_ins, Option.bind_some, wid (by omega) (by omega), if_pos (ins_true.2 (by omega)), in_ins, Option.bind_some, wid (n := H - 1) (by omega) (by omega), if_pos (ins_true.2 (by omega)), if_pos (by omega), if_pos (by omega), rdOf_at pages p hp]
  have e : wrap64 (4 * (wrap64 ((wrap64 ((Y + j) * W)) + (X + i)))) = 4 * ((Y + j) * W + (X + i)) := by
    rw [wid (n := (Y + j) * W) (by omega) (by omega), wid (n := (Y + j) * W + (X + i)) (by omega) (by omega), wid (by omega) (by omega)]
  rw [e, wid (n := 4 * ((Y + j) * W + (X + i)) + 1) (by omega) (by omega), wid (n := 4 * ((Y + j) * W + (X + i)) + 2) (by omega) (by omega), wid (n := 4 * ((Y + j) * W + (X + i)) + 3) (by omega) (by omega)]
  rw [if_pos (by omega), if_pos (by omega), if_pos (by omega), if_pos (by omega), if_pos (by omega), if_pos (by omega), if_pos (by omega), if_pos (by omega)]
  unfold tex
  rw [Int.add_zero]
/-- What is nearest: the texel's number. -/
def cutI (x n : Int) : Int := if x / 256 ≤ n - 2 then x / 256 else if n ≤ 1 then 0 else n - 2
theorem cutI_spec {x n : Int} (hn : 1 ≤ n ∧ n ≤ 256) (hx : 0 ≤ x ∧ x ≤ 256 * (n - 1)) : 0 ≤ cutI x n ∧ cutI x n < n ∧ 0 ≤ x - 256 * cutI x n ∧ x - 256 * cutI x n ≤ 256 ∧ (x - 256 * cutI x n ≠ 0 → cutI x n + 1 < n) := by
  unfold cutI
  split
  · omega
  · split <;> omega
theorem part_of {x n : Int} (hn : 1 ≤ n ∧ n ≤ 256) (hx : 0 ≤ x ∧ x ≤ 256 * (n - 1)) : sample_part.f x n = some (cutI x n, x - 256 * cutI x n) := by
  have hc := cutI_spec hn hx
  have e : Int.tdiv x 256 = x / 256 := Int.tdiv_eq_ediv_of_nonneg (by omega)
  unfold sample_part.f
  have e2 : mn (wrap64 (Int.tdiv x 256)) (mx (wrap64 (n - 2)) 0) = cutI x n := by
    rw [e, wid (by omega) (by omega), wid (by omega) (by omega)]
    unfold mn mx cutI
    repeat' split
    all_goals omega
  rw [e2, wid (n := 256 * cutI x n) (by omega) (by omega), wid (by omega) (by omega)]
theorem cut_of {x n : Int} (hn : 1 ≤ n ∧ n ≤ 256) (hx : 0 ≤ x ∧ x ≤ 256 * (n - 1)) : pochoirref32_cut.f x n = some (cutI x n, x - 256 * cutI x n) := by
  have hc := cutI_spec hn hx
  have e : Int.tdiv x 256 = x / 256 := Int.tdiv_eq_ediv_of_nonneg (by omega)
  unfold pochoirref32_cut.f
  have e2 : mx (mn (wrap64 (Int.tdiv x 256)) (wrap64 (n - 2))) 0 = cutI x n := by
    rw [e, wid (by omega) (by omega), wid (by omega) (by omega)]
    unfold mn mx cutI
    repeat' split
    all_goals omega
  rw [e2, wid (n := 256 * cutI x n) (by omega) (by omega), wid (by omega) (by omega)]
/-- Between two. -/
def lin (a b u : Int) : Int := a * (256 - u) + b * u
theorem mul_bound {a u : Int} {m : Int} (ha : 0 ≤ a ∧ a ≤ m) (hu : 0 ≤ u ∧ u ≤ 256) : 0 ≤ a * u ∧ a * u ≤ m * 256 := ⟨Int.mul_nonneg ha.1 hu.1, Int.mul_le_mul ha.2 hu.2 hu.1 (by omega)⟩
theorem lin_bound {a b u m : Int} (ha : 0 ≤ a ∧ a ≤ m) (hb : 0 ≤ b ∧ b ≤ m) (hu : 0 ≤ u ∧ u ≤ 256) : 0 ≤ lin a b u ∧ lin a b u ≤ m * 256 := by
  unfold lin
  have h1 : a * (256 - u) ≤ m * (256 - u) := Int.mul_le_mul_of_nonneg_right ha.2 (by omega)
  have h2 : b * u ≤ m * u := Int.mul_le_mul_of_nonneg_right hb.2 hu.1
  have h3 : 0 ≤ a * (256 - u) := Int.mul_nonneg ha.1 (by omega)
  have h4 : 0 ≤ b * u := Int.mul_nonneg hb.1 hu.1
  have h5 : m * (256 - u) + m * u = m * 256 := by rw [← Int.mul_add]; congr 1; omega
  omega
theorem mix_of {a b u : Int} (ha : 0 ≤ a ∧ a ≤ 65280) (hb : 0 ≤ b ∧ b ≤ 65280) (hu : 0 ≤ u ∧ u ≤ 256) : mix a b u = lin a b u := by
  unfold mix
  have h1 := mul_bound ha (u := 256 - u) (by omega)
  have h2 := mul_bound hb hu
  rw [wid (n := 256 - u) (by omega) (by omega), wid (n := a * (256 - u)) (by omega) (by omega), wid (n := b * u) (by omega) (by omega), wid (by omega) (by omega)]
  rfl
theorem lin_zero (a b : Int) : lin a b 0 = a * 256 := by unfold lin; rw [Int.mul_zero, Int.add_zero]; congr 1
/-- A row's. -/
theorem row_of {W H X Y : Int} {s : ByteArray} (hw : 1 ≤ W ∧ W ≤ 1024) (hh : 1 ≤ H ∧ H ≤ 1024) (hs : (s.size : Int) = 4 * W * H) (P : Int) {i j u : Int} (hX : 0 ≤ X ∧ X ≤ 1024) (hx : 0 ≤ X + i ∧ X + i < W) (hy : 0 ≤ Y + j ∧ Y + j < H) (hu : 0 ≤ u ∧ u ≤ 256) (hu1 : u ≠ 0 → X + (i + 1) < W) (hi : 0 ≤ i) :
    sample_sampler_row.f s W P X Y i j u = some (lin (tex s W X Y i j 0) (tex s W X Y (i + 1) j 0) u, lin (tex s W X Y i j 1) (tex s W X Y (i + 1) j 1) u, lin (tex s W X Y i j 2) (tex s W X Y (i + 1) j 2) u, lin (tex s W X Y i j 3) (tex s W X Y (i + 1) j 3) u) := by
  have r : ∀ i c, 0 ≤ tex s W X Y i j c ∧ tex s W X Y i j c ≤ 255 := fun i c => bt_rng s _
  unfold sample_sampler_row.f
  rw [texel_of hw hh hs P hx hy hX, Option.bind_some]
  have m : ∀ (a b u : Int), 0 ≤ a ∧ a ≤ 255 → 0 ≤ b ∧ b ≤ 255 → 0 ≤ u ∧ u ≤ 256 → mix a b u = lin a b u := fun a b u ha hb hu => mix_of (by omega) (by omega) hu
  by_cases h : u = 0
  · subst h
    rw [if_pos rfl]
    unfold sample_mixed.f
    simp only [Option.bind_some]
    rw [m _ _ _ (r i 0) (r i 0) hu, m _ _ _ (r i 1) (r i 1) hu, m _ _ _ (r i 2) (r i 2) hu, m _ _ _ (r i 3) (r i 3) hu]
    simp only [lin_zero]
  · have hx1 := hu1 h
    rw [if_neg h, wid (n := i + 1) (by omega) (by omega), texel_of hw hh hs P (by omega) hy hX, Option.bind_some]
    unfold sample_mixed.f
    simp only [Option.bind_some]
    rw [m _ _ _ (r i 0) (r (i + 1) 0) hu, m _ _ _ (r i 1) (r (i + 1) 1) hu, m _ _ _ (r i 2) (r (i + 1) 2) hu, m _ _ _ (r i 3) (r (i + 1) 3) hu]
/-- The four's. -/
def smp (s : ByteArray) (W X Y i j u v c : Int) : Int := lin (lin (tex s W X Y i j c) (tex s W X Y (i + 1) j c) u) (lin (tex s W X Y i (j + 1) c) (tex s W X Y (i + 1) (j + 1) c) u) v
theorem tex_range (s : ByteArray) (W X Y i j c : Int) : 0 ≤ tex s W X Y i j c ∧ tex s W X Y i j c ≤ 255 := bt_rng s _
theorem smp_range (s : ByteArray) (W X Y i j c : Int) {u v : Int} (hu : 0 ≤ u ∧ u ≤ 256) (hv : 0 ≤ v ∧ v ≤ 256) : 0 ≤ smp s W X Y i j u v c ∧ smp s W X Y i j u v c ≤ 16711680 := by
  have h1 := lin_bound (tex_range s W X Y i j c) (tex_range s W X Y (i + 1) j c) hu
  have h2 := lin_bound (tex_range s W X Y i (j + 1) c) (tex_range s W X Y (i + 1) (j + 1) c) hu
  have h3 := lin_bound h1 h2 hv
  unfold smp
  omega
theorem smp_sum (s : ByteArray) (W X Y i j u v c : Int) : smp s W X Y i j u v c = (256 - u) * (256 - v) * tex s W X Y i j c + u * (256 - v) * tex s W X Y (i + 1) j c + (256 - u) * v * tex s W X Y i (j + 1) c + u * v * tex s W X Y (i + 1) (j + 1) c := by
  unfold smp lin
  generalize tex s W X Y i j c = a
  generalize tex s W X Y (i + 1) j c = b
  generalize tex s W X Y i (j + 1) c = d
  generalize tex s W X Y (i + 1) (j + 1) c = e
  generalize 256 - u = u'
  generalize 256 - v = v'
  rw [Int.add_mul, Int.add_mul, ← Int.add_assoc]
  congr 1
  · congr 1
    · congr 1
      · ac_rfl
      · ac_rfl
    · ac_rfl
  · ac_rfl
/-- The reference's loop, one round. -/
theorem step_of {a0 a1 a2 a3 a4 a5 W H : Int} {gs : List S54} {ps : List S84} {pages : List ByteArray} (hB : atlasB a0 a1 a2 a3 a4 a5 W H gs ps pages = true) (g : S54) (p : Nat) (hp : p < pages.length) (hgp : g.f2.f0 = p) (hL : Lies W H (pages.length : Int) g)
    {i j u v : Int} (hu : 0 ≤ u ∧ u ≤ 256) (hv : 0 ≤ v ∧ v ≤ 256) (hi : 0 ≤ i ∧ i < g.f1.f2) (hj : 0 ≤ j ∧ j < g.f1.f3) (hi1 : u ≠ 0 → i + 1 < g.f1.f2) (hj1 : v ≠ 0 → j + 1 < g.f1.f3)
    (k : Nat) (hk : pages.length + gs.length + ps.length + 5 ≤ k) (x x' dx dy a b : Int) (h1 : Int.tmod x 2 = dx) (h2 : wrap64 (Int.tdiv x 2) = dy) (hx : x < 4) (hx' : wrap64 (x + 1) = x')
    (ha : dx = 0 ∧ a = 256 - u ∨ dx = 1 ∧ a = u) (hb : dy = 0 ∧ b = 256 - v ∨ dy = 1 ∧ b = v) (c0 c1 c2 c3 : Int) (r0 : 0 ≤ c0 ∧ c0 ≤ 100000000) (r1 : 0 ≤ c1 ∧ c1 ≤ 100000000) (r2 : 0 ≤ c2 ∧ c2 ≤ 100000000) (r3 : 0 ≤ c3 ∧ c3 ≤ 100000000) :
    pochoirref32_At.l0 (k + 1) i u j v x a0 a1 a2 a3 a4 a5 W H gs ps pages g.f0 g.f1.f0 g.f1.f1 g.f1.f2 g.f1.f3 g.f2.f0 g.f2.f1 g.f2.f2 c0 c1 c2 c3 =
    pochoirref32_At.l0 k i u j v x' a0 a1 a2 a3 a4 a5 W H gs ps pages g.f0 g.f1.f0 g.f1.f1 g.f1.f2 g.f1.f3 g.f2.f0 g.f2.f1 g.f2.f2
      (c0 + a * b * tex pages[p] W g.f2.f1 g.f2.f2 (i + dx) (j + dy) 0) (c1 + a * b * tex pages[p] W g.f2.f1 g.f2.f2 (i + dx) (j + dy) 1) (c2 + a * b * tex pages[p] W g.f2.f1 g.f2.f2 (i + dx) (j + dy) 2) (c3 + a * b * tex pages[p] W g.f2.f1 g.f2.f2 (i + dx) (j + dy) 3) := by
  have hH := holds_of hB
  have hw := hH.w
  have hh := hH.h
  have l1 := hL.w
  have l2 := hL.h
  have l4 := hL.x
  have l5 := hL.y
  have e1 : ∀ (y z : Int), ([y, z] : List Int).length = 2 := fun _ _ => rfl
  have q1 : rd ([wrap64 (256 - u), u] : List Int) dx = a := by
    rcases ha with ⟨rfl, rfl⟩ | ⟨rfl, rfl⟩
    · show wrap64 (256 - u) = _
      exact wid (by omega) (by omega)
    · rfl
  have q2 : rd ([wrap64 (256 - v), v] : List Int) dy = b := by
    rcases hb with ⟨rfl, rfl⟩ | ⟨rfl, rfl⟩
    · show wrap64 (256 - v) = _
      exact wid (by omega) (by omega)
    · rfl
  have ab : 0 ≤ a * b ∧ a * b ≤ 65536 := by
    have h0 : 0 ≤ a ∧ a ≤ 256 := by omega
    have h0' : 0 ≤ b ∧ b ≤ 256 := by omega
    have := mul_bound h0 h0'
    omega
  have tb : ∀ c, 0 ≤ a * b * tex pages[p] W g.f2.f1 g.f2.f2 (i + dx) (j + dy) c ∧ a * b * tex pages[p] W g.f2.f1 g.f2.f2 (i + dx) (j + dy) c ≤ 65536 * 255 := fun c => by
    have h := tex_range pages[p] W g.f2.f1 g.f2.f2 (i + dx) (j + dy) c
    exact ⟨Int.mul_nonneg ab.1 h.1, Int.mul_le_mul ab.2 h.2 h.1 (by omega)⟩
  conv => lhs; unfold pochoirref32_At.l0
  rw [if_pos hx]
  simp only [Option.bind_some, h1, h2, q1, q2, e1]
  have d1 : 0 ≤ dx ∧ dx < 2 := by omega
  have d2 : 0 ≤ dy ∧ dy < 2 := by omega
  rw [if_pos d1.1, if_pos (show dx < ((2 : Nat) : Int) from d1.2), if_pos d2.1, if_pos (show dy < ((2 : Nat) : Int) from d2.2), wid (n := a * b) (by omega) (by omega), hx']
  by_cases h0 : a * b = 0
  · rw [if_pos h0, h0]
    simp only [Int.zero_mul, Int.add_zero]
  · have ha0 : a ≠ 0 := fun h => h0 (by rw [h, Int.zero_mul])
    have hb0 : b ≠ 0 := fun h => h0 (by rw [h, Int.mul_zero])
    have k1 : i + dx < g.f1.f2 := by
      rcases ha with ⟨rfl, rfl⟩ | ⟨rfl, rfl⟩
      · omega
      · exact hi1 ha0
    have k2 : j + dy < g.f1.f3 := by
      rcases hb with ⟨rfl, rfl⟩ | ⟨rfl, rfl⟩
      · omega
      · exact hj1 hb0
    have w1 : wrap64 ((wrap64 (g.f2.f1 + i)) + dx) = g.f2.f1 + (i + dx) := by rw [wid (n := g.f2.f1 + i) (by omega) (by omega), wid (by omega) (by omega), Int.add_assoc]
    have w2 : wrap64 ((wrap64 (g.f2.f2 + j)) + dy) = g.f2.f2 + (j + dy) := by rw [wid (n := g.f2.f2 + j) (by omega) (by omega), wid (by omega) (by omega), Int.add_assoc]
    rw [if_neg h0, w1, w2, hgp, rtexel_of hB p hp (by omega) (by omega) k hk, Option.bind_some]
    simp only []
    have t0 := tb 0
    have t1 := tb 1
    have t2 := tb 2
    have t3 := tb 3
    have z : ∀ c, wrap64 (tex pages[p] W g.f2.f1 g.f2.f2 (i + dx) (j + dy) c) = tex pages[p] W g.f2.f1 g.f2.f2 (i + dx) (j + dy) c := fun c => by
      have := tex_range pages[p] W g.f2.f1 g.f2.f2 (i + dx) (j + dy) c
      exact wid (by omega) (by omega)
    have z2 : ∀ c, wrap64 (a * b * tex pages[p] W g.f2.f1 g.f2.f2 (i + dx) (j + dy) c) = a * b * tex pages[p] W g.f2.f1 g.f2.f2 (i + dx) (j + dy) c := fun c => by
      have := tb c
      exact wid (by omega) (by omega)
    rw [z, z, z, z, z2, z2, z2, z2, wid (n := c0 + _) (by omega) (by omega), wid (n := c1 + _) (by omega) (by omega), wid (n := c2 + _) (by omega) (by omega), wid (n := c3 + _) (by omega) (by omega)]
/-- The reference's loop. -/
theorem rloop_of {a0 a1 a2 a3 a4 a5 W H : Int} {gs : List S54} {ps : List S84} {pages : List ByteArray} (hB : atlasB a0 a1 a2 a3 a4 a5 W H gs ps pages = true) (g : S54) (p : Nat) (hp : p < pages.length) (hgp : g.f2.f0 = p) (hL : Lies W H (pages.length : Int) g)
    {i j u v : Int} (hu : 0 ≤ u ∧ u ≤ 256) (hv : 0 ≤ v ∧ v ≤ 256) (hi : 0 ≤ i ∧ i < g.f1.f2) (hj : 0 ≤ j ∧ j < g.f1.f3) (hi1 : u ≠ 0 → i + 1 < g.f1.f2) (hj1 : v ≠ 0 → j + 1 < g.f1.f3) (k : Nat) (hk : pages.length + gs.length + ps.length + 5 ≤ k) :
    pochoirref32_At.l0 (k + 5) i u j v 0 a0 a1 a2 a3 a4 a5 W H gs ps pages g.f0 g.f1.f0 g.f1.f1 g.f1.f2 g.f1.f3 g.f2.f0 g.f2.f1 g.f2.f2 0 0 0 0 =
    some (smp pages[p] W g.f2.f1 g.f2.f2 i j u v 0, smp pages[p] W g.f2.f1 g.f2.f2 i j u v 1, smp pages[p] W g.f2.f1 g.f2.f2 i j u v 2, smp pages[p] W g.f2.f1 g.f2.f2 i j u v 3, 0) := by
  have q : ∀ (a b : Int), 0 ≤ a ∧ a ≤ 256 → 0 ≤ b ∧ b ≤ 256 → ∀ i' j' c, 0 ≤ a * b * tex pages[p] W g.f2.f1 g.f2.f2 i' j' c ∧ a * b * tex pages[p] W g.f2.f1 g.f2.f2 i' j' c ≤ 65536 * 255 := fun a b ha hb i' j' c => by
    have h := tex_range pages[p] W g.f2.f1 g.f2.f2 i' j' c
    have ab := mul_bound ha hb
    exact ⟨Int.mul_nonneg ab.1 h.1, Int.mul_le_mul (by omega) h.2 h.1 (by omega)⟩
  have q0 := q (256 - u) (256 - v) (by omega) (by omega) (i + 0) (j + 0)
  have q1 := q u (256 - v) (by omega) (by omega) (i + 1) (j + 0)
  have q2 := q (256 - u) v (by omega) (by omega) (i + 0) (j + 1)
  have s0 := step_of hB g p hp hgp hL hu hv hi hj hi1 hj1 (k + 4) (by omega) 0 1 0 0 (256 - u) (256 - v) (by decide) (by simp [wrap64]) (by omega) (by simp [wrap64]) (.inl ⟨rfl, rfl⟩) (.inl ⟨rfl, rfl⟩) 0 0 0 0 (by omega) (by omega) (by omega) (by omega)
  rw [s0]
  have e0 := q0 0
  have e1 := q0 1
  have e2 := q0 2
  have e3 := q0 3
  rw [step_of hB g p hp hgp hL hu hv hi hj hi1 hj1 (k + 3) (by omega) 1 2 1 0 u (256 - v) (by decide) (by simp [wrap64]) (by omega) (by simp [wrap64]) (.inr ⟨rfl, rfl⟩) (.inl ⟨rfl, rfl⟩) _ _ _ _ (by omega) (by omega) (by omega) (by omega)]
  have f0 := q1 0
  have f1 := q1 1
  have f2 := q1 2
  have f3 := q1 3
  rw [step_of hB g p hp hgp hL hu hv hi hj hi1 hj1 (k + 2) (by omega) 2 3 0 1 (256 - u) v (by decide) (by simp [wrap64]) (by omega) (by simp [wrap64]) (.inl ⟨rfl, rfl⟩) (.inr ⟨rfl, rfl⟩) _ _ _ _ (by omega) (by omega) (by omega) (by omega)]
  have g0 := q2 0
  have g1 := q2 1
  have g2 := q2 2
  have g3 := q2 3
  rw [step_of hB g p hp hgp hL hu hv hi hj hi1 hj1 (k + 1) (by omega) 3 4 1 1 u v (by decide) (by simp [wrap64]) (by omega) (by simp [wrap64]) (.inr ⟨rfl, rfl⟩) (.inr ⟨rfl, rfl⟩) _ _ _ _ (by omega) (by omega) (by omega) (by omega)]
  simp only [pochoirref32_At.l0]
  rw [if_neg (by omega)]
  simp only [smp_sum, Int.add_zero, Int.zero_add]
/-- Both, of any point. -/
theorem at_of (a0 a1 a2 a3 a4 a5 W H : Int) (gs : List S54) (ps : List S84) (pages : List ByteArray) (n x y : Int) : ∃ k r0 r1 r2 r3 e, sample_At.f k a0 a1 a2 a3 a4 a5 W H gs ps pages n x y = some (r0, r1, r2, r3, e) ∧ pochoirref32_At.f k a0 a1 a2 a3 a4 a5 W H gs ps pages n x y = some (r0, r1, r2, r3, e) ∧
    (0 ≤ r0 ∧ r0 ≤ 16711680) ∧ (0 ≤ r1 ∧ r1 ≤ 16711680) ∧ (0 ≤ r2 ∧ r2 ≤ 16711680) ∧ (0 ≤ r3 ∧ r3 ≤ 16711680) ∧
    (e = 0 → ∃ (hB : atlasB a0 a1 a2 a3 a4 a5 W H gs ps pages = true) (m p : Nat) (hm : m < gs.length) (hp : p < pages.length), n = m ∧ (gs[m]).f2.f0 = p ∧ Lies W H (pages.length : Int) gs[m] ∧ (0 ≤ x ∧ x ≤ 256 * ((gs[m]).f1.f2 - 1)) ∧ (0 ≤ y ∧ y ≤ 256 * ((gs[m]).f1.f3 - 1)) ∧
      r0 = smp pages[p] W (gs[m]).f2.f1 (gs[m]).f2.f2 (cutI x (gs[m]).f1.f2) (cutI y (gs[m]).f1.f3) (x - 256 * cutI x (gs[m]).f1.f2) (y - 256 * cutI y (gs[m]).f1.f3) 0 ∧
      r1 = smp pages[p] W (gs[m]).f2.f1 (gs[m]).f2.f2 (cutI x (gs[m]).f1.f2) (cutI y (gs[m]).f1.f3) (x - 256 * cutI x (gs[m]).f1.f2) (y - 256 * cutI y (gs[m]).f1.f3) 1 ∧
      r2 = smp pages[p] W (gs[m]).f2.f1 (gs[m]).f2.f2 (cutI x (gs[m]).f1.f2) (cutI y (gs[m]).f1.f3) (x - 256 * cutI x (gs[m]).f1.f2) (y - 256 * cutI y (gs[m]).f1.f3) 2 ∧
      r3 = smp pages[p] W (gs[m]).f2.f1 (gs[m]).f2.f2 (cutI x (gs[m]).f1.f2) (cutI y (gs[m]).f1.f3) (x - 256 * cutI x (gs[m]).f1.f2) (y - 256 * cutI y (gs[m]).f1.f3) 3) ∧
    (∀ m : Nat, atlasB a0 a1 a2 a3 a4 a5 W H gs ps pages = true → n = m → (hm : m < gs.length) → (gs[m]).f1.f2 ≠ 0 → (0 ≤ x ∧ x ≤ 256 * ((gs[m]).f1.f2 - 1)) → (0 ≤ y ∧ y ≤ 256 * ((gs[m]).f1.f3 - 1)) → e = 0) := by
  obtain ⟨K, hK⟩ : ∃ K, K = pages.length + gs.length + ps.length + 20 := ⟨_, rfl⟩
  obtain ⟨m1, m2⟩ := may_b a0 a1 a2 a3 a4 a5 W H gs ps pages (K + 1) (by omega)
  have er1 : ∀ k, sample_At.j0 (k + 1) n x y true a0 a1 a2 a3 a4 a5 W H gs ps pages = some (0, 0, 0, 0, 1) := fun k => by simp [sample_At.j0]
  have er2 : ∀ k, pochoirref32_At.j0 (k + 1) n x y true a0 a1 a2 a3 a4 a5 W H gs ps pages = some (0, 0, 0, 0, 1) := fun k => by simp [pochoirref32_At.j0]
  refine ⟨K + 1, ?_⟩
  unfold sample_At.f pochoirref32_At.f
  rw [m1, m2, Option.bind_some, Option.bind_some]
  cases hB : atlasB a0 a1 a2 a3 a4 a5 W H gs ps pages with
  | false =>
    rw [if_neg (by decide), if_neg (by decide), er1, er2]
    exact ⟨0, 0, 0, 0, 1, rfl, rfl, by omega, by omega, by omega, by omega, fun h => by omega, fun _ h => by cases h⟩
  | true =>
    have hH := holds_of hB
    rw [if_pos rfl, if_pos rfl]
    by_cases h1 : n < 0
    · rw [if_pos h1, if_pos h1, er1, er2]
      exact ⟨0, 0, 0, 0, 1, rfl, rfl, by omega, by omega, by omega, by omega, fun h => by omega, fun _ _ _ _ => by omega⟩
    rw [if_neg h1, if_neg h1]
    by_cases h2 : n ≥ (gs.length : Int)
    · rw [decide_eq_true h2, er1, er2]
      exact ⟨0, 0, 0, 0, 1, rfl, rfl, by omega, by omega, by omega, by omega, fun h => by omega, fun _ _ _ _ => by omega⟩
    rw [decide_eq_false h2]
    obtain ⟨m, rfl⟩ := Int.eq_ofNat_of_zero_le (by omega : 0 ≤ n)
    have hm : m < gs.length := by omega
    have hE := hH.glyph _ (List.getElem_mem hm)
    have z0 : (0 : Int) ≤ (m : Int) := by omega
    have z1 : (m : Int) < (gs.length : Int) := by omega
    simp only [sample_At.j0, pochoirref32_At.j0, Bool.false_eq_true, if_false, if_pos z0, if_pos z1, rd54_at gs m hm]
    obtain ⟨g, hg⟩ : ∃ g, g = gs[m] := ⟨_, rfl⟩
    rw [← hg] at hE ⊢
    have eqm : ∀ m' : Nat, ((m : Nat) : Int) = m' → m' = m := fun m' h => by omega
    obtain ⟨K', hK'⟩ : ∃ j, K = j + 1 := ⟨K - 1, by omega⟩
    rw [hK']
    have er3 : sample_At.j1 (K' + 1) x y true a0 a1 a2 a3 a4 a5 W H gs ps pages g.f0 g.f1.f0 g.f1.f1 g.f1.f2 g.f1.f3 g.f2.f0 g.f2.f1 g.f2.f2 = some (0, 0, 0, 0, 7) := by simp [sample_At.j1]
    have er4 : pochoirref32_At.j1 (K' + 1) x y true a0 a1 a2 a3 a4 a5 W H gs ps pages g.f0 g.f1.f0 g.f1.f1 g.f1.f2 g.f1.f3 g.f2.f0 g.f2.f1 g.f2.f2 = some (0, 0, 0, 0, 7) := by simp [pochoirref32_At.j1]
    have bad : ∀ {q : Prop}, (g.f1.f2 = 0 ∨ ¬ (0 ≤ x ∧ x ≤ 256 * (g.f1.f2 - 1)) ∨ ¬ (0 ≤ y ∧ y ≤ 256 * (g.f1.f3 - 1))) → (∀ m' : Nat, True → ((m : Nat) : Int) = m' → (hm' : m' < gs.length) → (gs[m']).f1.f2 ≠ 0 → (0 ≤ x ∧ x ≤ 256 * ((gs[m']).f1.f2 - 1)) → (0 ≤ y ∧ y ≤ 256 * ((gs[m']).f1.f3 - 1)) → q) := by
      intro q hq m' _ e hm' c1 c2 c3
      obtain rfl := eqm m' e
      rw [← hg] at c1 c2 c3
      rcases hq with h | h | h
      · exact absurd h c1
      · exact absurd c2 h
      · exact absurd c3 h
    by_cases h3 : g.f1.f2 = 0
    · rw [if_pos h3, if_pos h3, er3, er4]
      exact ⟨0, 0, 0, 0, 7, rfl, rfl, by omega, by omega, by omega, by omega, fun h => by omega, bad (.inl h3)⟩
    have hL := lies_of hH.w hH.h (by have := hH.pl; omega) hE h3
    have l1 := hL.w
    have l2 := hL.h
    have l3 := hL.p
    have l4 := hL.x
    have l5 := hL.y
    have hw := hH.w
    have hh := hH.h
    have w1 : wrap64 (256 * (wrap64 (g.f1.f2 - 1))) = 256 * (g.f1.f2 - 1) := by rw [wid (n := g.f1.f2 - 1) (by omega) (by omega), wid (by omega) (by omega)]
    have w2 : wrap64 (256 * (wrap64 (g.f1.f3 - 1))) = 256 * (g.f1.f3 - 1) := by rw [wid (n := g.f1.f3 - 1) (by omega) (by omega), wid (by omega) (by omega)]
    rw [if_neg h3, if_neg h3, w1, w2]
    by_cases h4 : x < 0
    · rw [if_pos h4, if_pos h4, er3, er4]
      exact ⟨0, 0, 0, 0, 7, rfl, rfl, by omega, by omega, by omega, by omega, fun h => by omega, bad (.inr (.inl (by omega)))⟩
    rw [if_neg h4, if_neg h4]
    by_cases h5 : x > 256 * (g.f1.f2 - 1)
    · rw [if_pos h5, if_pos h5, er3, er4]
      have : (if y < 0 then some ((0 : Int), (0 : Int), (0 : Int), (0 : Int), (7 : Int)) else some (0, 0, 0, 0, 7)) = some (0, 0, 0, 0, 7) := by split <;> rfl
      rw [this]
      exact ⟨0, 0, 0, 0, 7, rfl, rfl, by omega, by omega, by omega, by omega, fun h => by omega, bad (.inr (.inl (by omega)))⟩
    rw [if_neg h5, if_neg h5]
    by_cases h6 : y < 0
    · rw [if_pos h6, if_pos h6, er3, er4]
      exact ⟨0, 0, 0, 0, 7, rfl, rfl, by omega, by omega, by omega, by omega, fun h => by omega, bad (.inr (.inr (by omega)))⟩
    rw [if_neg h6, if_neg h6]
    by_cases h7 : y > 256 * (g.f1.f3 - 1)
    · rw [decide_eq_true h7, er3, er4]
      exact ⟨0, 0, 0, 0, 7, rfl, rfl, by omega, by omega, by omega, by omega, fun h => by omega, bad (.inr (.inr (by omega)))⟩
    rw [decide_eq_false h7]
    have cx := cutI_spec (x := x) (n := g.f1.f2) (by omega) (by omega)
    have cy := cutI_spec (x := y) (n := g.f1.f3) (by omega) (by omega)
    obtain ⟨p, hp⟩ := Int.eq_ofNat_of_zero_le l3.1
    have hpl : p < pages.length := by omega
    have hs : ((pages[p]).size : Int) = 4 * W * H := hH.page _ (List.getElem_mem hpl)
    obtain ⟨K2, hK2⟩ : ∃ j, K' = j + 5 := ⟨K' - 5, by omega⟩
    have ref := rloop_of hB g p hpl hp hL (i := cutI x g.f1.f2) (j := cutI y g.f1.f3) (u := x - 256 * cutI x g.f1.f2) (v := y - 256 * cutI y g.f1.f3) (by omega) (by omega) (by omega) (by omega) (fun h => by have := cx.2.2.2.2 h; omega) (fun h => by have := cy.2.2.2.2 h; omega) K2 (by omega)
    rw [← hK2] at ref
    have rowA := row_of hw hh hs g.f2.f0 (X := g.f2.f1) (Y := g.f2.f2) (i := cutI x g.f1.f2) (j := cutI y g.f1.f3) (u := x - 256 * cutI x g.f1.f2) (by omega) (by omega) (by omega) (by omega) (fun h => by have := cx.2.2.2.2 h; omega) (by omega)
    simp only [sample_At.j1, pochoirref32_At.j1, Bool.false_eq_true, if_false]
    rw [if_pos l3.1, if_pos l3.2, part_of (by omega) (by omega), Option.bind_some, part_of (by omega) (by omega), Option.bind_some, cut_of (by omega) (by omega), Option.bind_some, cut_of (by omega) (by omega), Option.bind_some]
    simp only []
    have hrd : rdOf ByteArray.empty pages g.f2.f0 = pages[p] := by rw [hp]; exact rdOf_at pages p hpl
    rw [hrd, rowA, Option.bind_some, ref]
    have R : ∀ c, 0 ≤ smp pages[p] W g.f2.f1 g.f2.f2 (cutI x g.f1.f2) (cutI y g.f1.f3) (x - 256 * cutI x g.f1.f2) (y - 256 * cutI y g.f1.f3) c ∧ smp pages[p] W g.f2.f1 g.f2.f2 (cutI x g.f1.f2) (cutI y g.f1.f3) (x - 256 * cutI x g.f1.f2) (y - 256 * cutI y g.f1.f3) c ≤ 16711680 := fun c => smp_range _ _ _ _ _ _ _ (by omega) (by omega)
    have LB : ∀ j c, 0 ≤ lin (tex pages[p] W g.f2.f1 g.f2.f2 (cutI x g.f1.f2) j c) (tex pages[p] W g.f2.f1 g.f2.f2 (cutI x g.f1.f2 + 1) j c) (x - 256 * cutI x g.f1.f2) ∧ lin (tex pages[p] W g.f2.f1 g.f2.f2 (cutI x g.f1.f2) j c) (tex pages[p] W g.f2.f1 g.f2.f2 (cutI x g.f1.f2 + 1) j c) (x - 256 * cutI x g.f1.f2) ≤ 65280 := fun j c => by
      have := lin_bound (tex_range pages[p] W g.f2.f1 g.f2.f2 (cutI x g.f1.f2) j c) (tex_range pages[p] W g.f2.f1 g.f2.f2 (cutI x g.f1.f2 + 1) j c) (u := x - 256 * cutI x g.f1.f2) (by omega)
      omega
    have fin : ∀ (P : Prop), P → ∃ r0 r1 r2 r3 e, some (smp pages[p] W g.f2.f1 g.f2.f2 (cutI x g.f1.f2) (cutI y g.f1.f3) (x - 256 * cutI x g.f1.f2) (y - 256 * cutI y g.f1.f3) 0, smp pages[p] W g.f2.f1 g.f2.f2 (cutI x g.f1.f2) (cutI y g.f1.f3) (x - 256 * cutI x g.f1.f2) (y - 256 * cutI y g.f1.f3) 1, smp pages[p] W g.f2.f1 g.f2.f2 (cutI x g.f1.f2) (cutI y g.f1.f3) (x - 256 * cutI x g.f1.f2) (y - 256 * cutI y g.f1.f3) 2, smp pages[p] W g.f2.f1 g.f2.f2 (cutI x g.f1.f2) (cutI y g.f1.f3) (x - 256 * cutI x g.f1.f2) (y - 256 * cutI y g.f1.f3) 3, (0 : Int)) = some (r0, r1, r2, r3, e) ∧ P := fun P hP => ⟨_, _, _, _, _, rfl, hP⟩
    have ending : sample_At.j1 (K' + 1) x y false a0 a1 a2 a3 a4 a5 W H gs ps pages g.f0 g.f1.f0 g.f1.f1 g.f1.f2 g.f1.f3 g.f2.f0 g.f2.f1 g.f2.f2 = sample_At.j1 (K' + 1) x y false a0 a1 a2 a3 a4 a5 W H gs ps pages g.f0 g.f1.f0 g.f1.f1 g.f1.f2 g.f1.f3 g.f2.f0 g.f2.f1 g.f2.f2 := rfl
    by_cases h8 : y - 256 * cutI y g.f1.f3 = 0
    · rw [if_pos h8]
      unfold sample_mixed.f
      simp only [Option.bind_some]
      have z : ∀ c, mix (lin (tex pages[p] W g.f2.f1 g.f2.f2 (cutI x g.f1.f2) (cutI y g.f1.f3) c) (tex pages[p] W g.f2.f1 g.f2.f2 (cutI x g.f1.f2 + 1) (cutI y g.f1.f3) c) (x - 256 * cutI x g.f1.f2)) (lin (tex pages[p] W g.f2.f1 g.f2.f2 (cutI x g.f1.f2) (cutI y g.f1.f3) c) (tex pages[p] W g.f2.f1 g.f2.f2 (cutI x g.f1.f2 + 1) (cutI y g.f1.f3) c) (x - 256 * cutI x g.f1.f2)) 0 = smp pages[p] W g.f2.f1 g.f2.f2 (cutI x g.f1.f2) (cutI y g.f1.f3) (x - 256 * cutI x g.f1.f2) (y - 256 * cutI y g.f1.f3) c := fun c => by
        rw [mix_of (LB _ c) (LB _ c) (by omega), lin_zero]
        unfold smp
        rw [h8, lin_zero]
      rw [z, z, z, z]
      refine ⟨_, _, _, _, _, rfl, rfl, R 0, R 1, R 2, R 3, fun _ => ?_, fun _ _ _ _ _ _ _ => rfl⟩
      refine ⟨trivial, m, p, hm, hpl, rfl, ?_, ?_, ?_, ?_, ?_⟩
      all_goals rw [← hg]
      · exact hp
      · exact hL
      · omega
      · omega
      · exact ⟨rfl, rfl, rfl, rfl⟩
    · have hj1 := cy.2.2.2.2 h8
      have rowB := row_of hw hh hs g.f2.f0 (X := g.f2.f1) (Y := g.f2.f2) (i := cutI x g.f1.f2) (j := cutI y g.f1.f3 + 1) (u := x - 256 * cutI x g.f1.f2) (by omega) (by omega) (by omega) (by omega) (fun h => by have := cx.2.2.2.2 h; omega) (by omega)
      rw [if_neg h8, wid (n := cutI y g.f1.f3 + 1) (by omega) (by omega), rowB, Option.bind_some]
      unfold sample_mixed.f
      simp only [Option.bind_some]
      have z : ∀ c, mix (lin (tex pages[p] W g.f2.f1 g.f2.f2 (cutI x g.f1.f2) (cutI y g.f1.f3) c) (tex pages[p] W g.f2.f1 g.f2.f2 (cutI x g.f1.f2 + 1) (cutI y g.f1.f3) c) (x - 256 * cutI x g.f1.f2)) (lin (tex pages[p] W g.f2.f1 g.f2.f2 (cutI x g.f1.f2) (cutI y g.f1.f3 + 1) c) (tex pages[p] W g.f2.f1 g.f2.f2 (cutI x g.f1.f2 + 1) (cutI y g.f1.f3 + 1) c) (x - 256 * cutI x g.f1.f2)) (y - 256 * cutI y g.f1.f3) = smp pages[p] W g.f2.f1 g.f2.f2 (cutI x g.f1.f2) (cutI y g.f1.f3) (x - 256 * cutI x g.f1.f2) (y - 256 * cutI y g.f1.f3) c := fun c => by
        rw [mix_of (LB _ c) (LB _ c) (by omega)]
        rfl
      rw [z, z, z, z]
      refine ⟨_, _, _, _, _, rfl, rfl, R 0, R 1, R 2, R 3, fun _ => ?_, fun _ _ _ _ _ _ _ => rfl⟩
      refine ⟨trivial, m, p, hm, hpl, rfl, ?_, ?_, ?_, ?_, ?_⟩
      all_goals rw [← hg]
      · exact hp
      · exact hL
      · omega
      · omega
      · exact ⟨rfl, rfl, rfl, rfl⟩
/-- Both medians. -/
theorem median_of {a b c d : Int} (h1 : 0 ≤ b ∧ b ≤ 16711680) (h2 : 0 ≤ c ∧ c ≤ 16711680) (h3 : 0 ≤ d ∧ d ≤ 16711680) : ∃ r, sample_Median.f a b c d = some r ∧ pochoirref32_Median.f a b c d = some r := by
  refine ⟨_, rfl, ?_⟩
  unfold pochoirref32_Median.f pochoirref27_Median.f
  rw [Option.bind_some]
  congr 1
  rw [wid (n := b + c) (by omega) (by omega), wid (n := b + c + d) (by omega) (by omega)]
  have hp : 0 ≤ mn (mn b c) d ∧ mn (mn b c) d ≤ 16711680 := by
    unfold mn
    repeat' split
    all_goals omega
  have hq : 0 ≤ mx (mx b c) d ∧ mx (mx b c) d ≤ 16711680 := by
    unfold mx
    repeat' split
    all_goals omega
  rw [wid (n := b + c + d - mn (mn b c) d) (by omega) (by omega), wid (by omega) (by omega)]
  unfold mn mx
  repeat' split
  all_goals omega
end Go.Proofs.YtjcgmjhcaaaieaaDoor.Pure
