-- printed by a program of this session's (wip/mp.sh), out of the translation; the texts of its folder 'given' are typed by hand
-- shortened (wip/short.py)
import Derived.Test.YthnojbbfmcapnaaPr0
import Derived.Test.YthnojbbfmcapnaaPr23
import Derived.Test.YthnojbbfmcapnaaPr24
namespace Go.Proofs.Ythnojbbfmcapnaa.Pr
open Go.RowKit Go.Proofs.YthnojbbfmcapnaaW.PrintWords Go.Proofs.YthnojbbfmcapnaaW.PrintLast Go.Proofs.YthnojbbfmcapnaaW.PrintMore
attribute [local go_sem] max2_int min2_int max_two min_two max_three min_three max_four min_four   -- for this text's walks alone
set_option linter.unusedVariables false
set_option linter.unusedSimpArgs false

/-! ### pochoirref40_Make: function 8 -/
def pochoirref40_Make.l0 : Nat → List (S41) → Int → ByteArray → Int → Option (ByteArray × Int)
 | 0, _, _, _, _ => none
 | k + 1, x0, x4, x6, x7 => if x7 < x4 then (if 0 ≤ x7 then (if x7 < (x0.length : Int) then ((pochoirref40_p16.f k ((rd_T41 x0 x7).f0)).bind fun an => (if x6.size + an.size ≤ 9223372036854775807 then ((pochoirref40_p16.f k ((rd_T41 x0 x7).f1)).bind fun aq => (if (x6 ++ an).size + aq.size ≤ 9223372036854775807 then ((pochoirref40_p16.f k ((rd_T41 x0 x7).f2)).bind fun ar => (if ((x6 ++ an) ++ aq).size + ar.size ≤ 9223372036854775807 then (pochoirref40_Make.l0 k x0 x4 (((x6 ++ an) ++ aq) ++ ar) (wrap64 (x7 + 1))) else (none))) else (none))) else (none))) else (none)) else (none)) else (some (x6, 0))
def pochoirref40_Make.f (k : Nat) (l0 : List (S41)) : Option (ByteArray × Int) := (pochoirref40_May.f k l0 1024).bind fun aS => (if aS = true then ((pochoirref40_three.f k (l0.length : Int)).bind fun ae => ((pochoirref40_p16.f k 0).bind fun ab => ((pochoirref40_p16.f k 1).bind fun aa => (if ab.size + aa.size ≤ 9223372036854775807 then ((pochoirref40_p16.f k 0).bind fun ac => (if (ab ++ aa).size + ac.size ≤ 9223372036854775807 then ((pochoirref40_p16.f k (wrap64 (14 + (wrap64 (6 * (l0.length : Int)))))).bind fun ad => (if ((ab ++ aa) ++ ac).size + ad.size ≤ 9223372036854775807 then ((pochoirref40_p16.f k 1).bind fun af => (if (((ab ++ aa) ++ ac) ++ ad).size + af.size ≤ 9223372036854775807 then ((pochoirref40_p16.f k (l0.length : Int)).bind fun ag => (if ((((ab ++ aa) ++ ac) ++ ad) ++ af).size + ag.size ≤ 9223372036854775807 then (if 0 < (ae.length : Int) then ((pochoirref40_p16.f k (rd ae 0)).bind fun ah => (if (((((ab ++ aa) ++ ac) ++ ad) ++ af) ++ ag).size + ah.size ≤ 9223372036854775807 then (if 1 < (ae.length : Int) then ((pochoirref40_p16.f k (rd ae 1)).bind fun ai => (if ((((((ab ++ aa) ++ ac) ++ ad) ++ af) ++ ag) ++ ah).size + ai.size ≤ 9223372036854775807 then (if 2 < (ae.length : Int) then ((pochoirref40_p16.f k (rd ae 2)).bind fun ak => (if (((((((ab ++ aa) ++ ac) ++ ad) ++ af) ++ ag) ++ ah) ++ ai).size + ak.size ≤ 9223372036854775807 then (pochoirref40_Make.l0 k l0 (l0.length : Int) ((((((((ab ++ aa) ++ ac) ++ ad) ++ af) ++ ag) ++ ah) ++ ai) ++ ak) 0) else (none))) else (none)) else (none))) else (none)) else (none))) else (none)) else (none))) else (none))) else (none))) else (none))) else (none))))) else (some ((⟨#[]⟩ : ByteArray), 1)))
theorem pochoirref40_Make.mono_l : ∀ k, (∀ y0 y1 y2 y3, LeO (pochoirref40_Make.l0 k y0 y1 y2 y3) (pochoirref40_Make.l0 (k + 1) y0 y1 y2 y3))
 | 0 => fun _ _ _ _ r h => by simp [pochoirref40_Make.l0] at h
 | k + 1 => by
  have ih0 := pochoirref40_Make.mono_l k
  ·intro y0 y1 y2 y3
   unfold pochoirref40_Make.l0
   repeat' first
   | (with_reducible exact ih0 _ _ _ _)
   | (with_reducible exact pochoirref40_May.mono _ _ _)
   | (with_reducible exact pochoirref40_p16.mono _ _)
   | (with_reducible exact pochoirref40_three.mono _ _)
   | (with_reducible exact LeO.refl _)
   | (with_reducible exact LeO.none _)
   | (with_reducible refine LeO.ite ?_ ?_)
   | (with_reducible refine LeO.bind ?_ (fun _ => ?_))
   | exact ih0 _ _ _ _
   | exact pochoirref40_May.mono _ _ _
   | exact pochoirref40_p16.mono _ _
   | exact pochoirref40_three.mono _ _
   | exact LeO.none _
   | refine LeO.ite ?_ ?_
   | refine LeO.bind ?_ (fun _ => ?_)
theorem pochoirref40_Make.mono : ∀ a0 k, LeO (pochoirref40_Make.f k a0) (pochoirref40_Make.f (k + 1) a0) := by
 intro a0 k
 have ih0 := pochoirref40_Make.mono_l k
 unfold pochoirref40_Make.f
 repeat' first
   | (with_reducible exact ih0 _ _ _ _)
   | (with_reducible exact pochoirref40_May.mono _ _ _)
   | (with_reducible exact pochoirref40_p16.mono _ _)
   | (with_reducible exact pochoirref40_three.mono _ _)
   | (with_reducible exact LeO.refl _)
   | (with_reducible exact LeO.none _)
   | (with_reducible refine LeO.ite ?_ ?_)
   | (with_reducible refine LeO.bind ?_ (fun _ => ?_))
   | exact ih0 _ _ _ _
   | exact pochoirref40_May.mono _ _ _
   | exact pochoirref40_p16.mono _ _
   | exact pochoirref40_three.mono _ _
   | exact LeO.none _
   | refine LeO.ite ?_ ?_
   | refine LeO.bind ?_ (fun _ => ?_)
def pochoirref40_Make.T5 : Bool × List (List Nat × List Nat) := (true, [([], []), ([0], []), ([0, 1], [0, 1]), ([1], []), ([2, 3], [2, 3]), ([], []), ([5], [5]), ([6], [6]), ([7, 3], [7]), ([4, 8], [4, 8]), ([8], []), ([9, 10], [9, 10]), ([], []), ([12, 10], [12]), ([11, 13], [11, 13]), ([], []), ([15], [15]), ([16], [16]), ([17, 13], [17]), ([14, 18], [14, 18]), ([], []), ([20], [20]), ([21], [21]), ([22, 18], [22]), ([19, 23], [19, 23]), ([], []), ([25], [25]), ([26], [26]), ([27, 23], [27]), ([24, 28], [24, 28]), ([29, 28, 0, 1, 2, 3, 4, 5, 6, 7, 8, 9, 10, 11, 12, 13, 14, 15, 16, 17, 18, 19, 20, 21, 22, 23, 24, 25, 26, 27, 28, 29], [29])])
def pochoirref40_Make.B5 : List Nat := [0, 1, 3, 3, 15, 0, 32, 96, 235, 511, 491, 2047, 0, 5611, 16383, 0, 32768, 98304, 243179, 524287, 0, 1048576, 3145728, 7845355, 16777215, 0, 33554432, 100663296, 251114987, 536870911, 1073741823]
theorem pochoirref40_Make.tab5 : rtab .any (opsOf Try.f8 5) = pochoirref40_Make.T5 := by kernel_rfl
theorem pochoirref40_Make.bits5 : waitsOk pochoirref40_Make.T5.2 pochoirref40_Make.B5 = true := by kernel_rfl
def pochoirref40_Make.T9 : Bool × List (List Nat × List Nat) := (true, [([], []), ([], []), ([], []), ([1, 2], [1, 2]), ([3], [3]), ([4], [4]), ([5], [5]), ([0, 6], [0, 6]), ([], []), ([], []), ([8, 9], [8, 9]), ([10], [10]), ([11], [11]), ([12, 6], [12]), ([7, 13], [7, 13]), ([], []), ([], []), ([15, 16], [15, 16]), ([17], [17]), ([18], [18]), ([19, 13], [19]), ([14, 20], [14, 20]), ([21, 20, 0, 1, 2, 3, 4, 5, 6, 7, 8, 9, 10, 11, 12, 13, 14, 15, 16, 17, 18, 19, 20, 21], [0, 21])])
def pochoirref40_Make.B9 : List Nat := [0, 0, 0, 6, 14, 30, 62, 127, 0, 0, 768, 1792, 3840, 8062, 16383, 0, 0, 98304, 229376, 491520, 1032062, 2097151, 4194303]
theorem pochoirref40_Make.tab9 : rtab .any (opsOf Try.f8 9) = pochoirref40_Make.T9 := by kernel_rfl
theorem pochoirref40_Make.bits9 : waitsOk pochoirref40_Make.T9.2 pochoirref40_Make.B9 = true := by kernel_rfl
set_option maxHeartbeats 8000000 in
set_option maxRecDepth 100000 in
theorem pochoirref40_Make.calls (k : Nat) (A0 : Option Addr) (c0 : Nat) (l0 : List (S41)) (r1 : ByteArray) (r2 : Int) (w : World) (bz : Kd.C k41 w A0 l0.length l0) (bA : l0.length ≤ c0) (h : pochoirref40_Make.f k l0 = some (r1, r2)) :
  Calls Try.prog 8 #[.slice A0 l0.length c0] w fun e w' => e = .returned (.tuple #[.string r1, .int .i64 r2]) ∧ Below w.heap.size w w' := by
 have HR0 := Aside0.mk bz
 have bB := Aside0.mk bA
 clear bz bA
 have HB := Aside0.mk (Below.refl w.heap.size w)
 have H : ((pochoirref40_May.f k l0 1024).bind fun aS => (if aS = true then ((pochoirref40_three.f k (l0.length : Int)).bind fun ae => ((pochoirref40_p16.f k 0).bind fun ab => ((pochoirref40_p16.f k 1).bind fun aa => (if ab.size + aa.size ≤ 9223372036854775807 then ((pochoirref40_p16.f k 0).bind fun ac => (if (ab ++ aa).size + ac.size ≤ 9223372036854775807 then ((pochoirref40_p16.f k (wrap64 (14 + (wrap64 (6 * (l0.length : Int)))))).bind fun ad => (if ((ab ++ aa) ++ ac).size + ad.size ≤ 9223372036854775807 then ((pochoirref40_p16.f k 1).bind fun af => (if (((ab ++ aa) ++ ac) ++ ad).size + af.size ≤ 9223372036854775807 then ((pochoirref40_p16.f k (l0.length : Int)).bind fun ag => (if ((((ab ++ aa) ++ ac) ++ ad) ++ af).size + ag.size ≤ 9223372036854775807 then (if 0 < (ae.length : Int) then ((pochoirref40_p16.f k (rd ae 0)).bind fun ah => (if (((((ab ++ aa) ++ ac) ++ ad) ++ af) ++ ag).size + ah.size ≤ 9223372036854775807 then (if 1 < (ae.length : Int) then ((pochoirref40_p16.f k (rd ae 1)).bind fun ai => (if ((((((ab ++ aa) ++ ac) ++ ad) ++ af) ++ ag) ++ ah).size + ai.size ≤ 9223372036854775807 then (if 2 < (ae.length : Int) then ((pochoirref40_p16.f k (rd ae 2)).bind fun ak => (if (((((((ab ++ aa) ++ ac) ++ ad) ++ af) ++ ag) ++ ah) ++ ai).size + ak.size ≤ 9223372036854775807 then (pochoirref40_Make.l0 k l0 (l0.length : Int) ((((((((ab ++ aa) ++ ac) ++ ad) ++ af) ++ ag) ++ ah) ++ ai) ++ ak) 0) else (none))) else (none)) else (none))) else (none)) else (none))) else (none)) else (none))) else (none))) else (none))) else (none))) else (none))))) else (some ((⟨#[]⟩ : ByteArray), 1)))) = some (r1, r2) := h
 clear h
 replace H := Option.bind_eq_some_iff.mp H
 obtain ⟨aS, A20, H⟩ := H
 replace H : (if aS = true then ((pochoirref40_three.f k (l0.length : Int)).bind fun ae => ((pochoirref40_p16.f k 0).bind fun ab => ((pochoirref40_p16.f k 1).bind fun aa => (if ab.size + aa.size ≤ 9223372036854775807 then ((pochoirref40_p16.f k 0).bind fun ac => (if (ab ++ aa).size + ac.size ≤ 9223372036854775807 then ((pochoirref40_p16.f k (wrap64 (14 + (wrap64 (6 * (l0.length : Int)))))).bind fun ad => (if ((ab ++ aa) ++ ac).size + ad.size ≤ 9223372036854775807 then ((pochoirref40_p16.f k 1).bind fun af => (if (((ab ++ aa) ++ ac) ++ ad).size + af.size ≤ 9223372036854775807 then ((pochoirref40_p16.f k (l0.length : Int)).bind fun ag => (if ((((ab ++ aa) ++ ac) ++ ad) ++ af).size + ag.size ≤ 9223372036854775807 then (if 0 < (ae.length : Int) then ((pochoirref40_p16.f k (rd ae 0)).bind fun ah => (if (((((ab ++ aa) ++ ac) ++ ad) ++ af) ++ ag).size + ah.size ≤ 9223372036854775807 then (if 1 < (ae.length : Int) then ((pochoirref40_p16.f k (rd ae 1)).bind fun ai => (if ((((((ab ++ aa) ++ ac) ++ ad) ++ af) ++ ag) ++ ah).size + ai.size ≤ 9223372036854775807 then (if 2 < (ae.length : Int) then ((pochoirref40_p16.f k (rd ae 2)).bind fun ak => (if (((((((ab ++ aa) ++ ac) ++ ad) ++ af) ++ ag) ++ ah) ++ ai).size + ak.size ≤ 9223372036854775807 then (pochoirref40_Make.l0 k l0 (l0.length : Int) ((((((((ab ++ aa) ++ ac) ++ ad) ++ af) ++ ag) ++ ah) ++ ai) ++ ak) 0) else (none))) else (none)) else (none))) else (none)) else (none))) else (none)) else (none))) else (none))) else (none))) else (none))) else (none))))) else (some ((⟨#[]⟩ : ByteArray), 1))) = some (r1, r2) := H
 have A2 := Aside0.mk A20
 clear A20
 by_cases c3 : aS = true
 ·subst c3
  have H1 : ((pochoirref40_three.f k (l0.length : Int)).bind fun ae => ((pochoirref40_p16.f k 0).bind fun ab => ((pochoirref40_p16.f k 1).bind fun aa => (if ab.size + aa.size ≤ 9223372036854775807 then ((pochoirref40_p16.f k 0).bind fun ac => (if (ab ++ aa).size + ac.size ≤ 9223372036854775807 then ((pochoirref40_p16.f k (wrap64 (14 + (wrap64 (6 * (l0.length : Int)))))).bind fun ad => (if ((ab ++ aa) ++ ac).size + ad.size ≤ 9223372036854775807 then ((pochoirref40_p16.f k 1).bind fun af => (if (((ab ++ aa) ++ ac) ++ ad).size + af.size ≤ 9223372036854775807 then ((pochoirref40_p16.f k (l0.length : Int)).bind fun ag => (if ((((ab ++ aa) ++ ac) ++ ad) ++ af).size + ag.size ≤ 9223372036854775807 then (if 0 < (ae.length : Int) then ((pochoirref40_p16.f k (rd ae 0)).bind fun ah => (if (((((ab ++ aa) ++ ac) ++ ad) ++ af) ++ ag).size + ah.size ≤ 9223372036854775807 then (if 1 < (ae.length : Int) then ((pochoirref40_p16.f k (rd ae 1)).bind fun ai => (if ((((((ab ++ aa) ++ ac) ++ ad) ++ af) ++ ag) ++ ah).size + ai.size ≤ 9223372036854775807 then (if 2 < (ae.length : Int) then ((pochoirref40_p16.f k (rd ae 2)).bind fun ak => (if (((((((ab ++ aa) ++ ac) ++ ad) ++ af) ++ ag) ++ ah) ++ ai).size + ak.size ≤ 9223372036854775807 then (pochoirref40_Make.l0 k l0 (l0.length : Int) ((((((((ab ++ aa) ++ ac) ++ ad) ++ af) ++ ag) ++ ah) ++ ai) ++ ak) 0) else (none))) else (none)) else (none))) else (none)) else (none))) else (none)) else (none))) else (none))) else (none))) else (none))) else (none))))) = some (r1, r2) := by rw [if_pos rfl] at H; exact H
  clear H
  have H := H1
  clear H1
  replace H := Option.bind_eq_some_iff.mp H
  obtain ⟨ae, A40, H⟩ := H
  replace H : ((pochoirref40_p16.f k 0).bind fun ab => ((pochoirref40_p16.f k 1).bind fun aa => (if ab.size + aa.size ≤ 9223372036854775807 then ((pochoirref40_p16.f k 0).bind fun ac => (if (ab ++ aa).size + ac.size ≤ 9223372036854775807 then ((pochoirref40_p16.f k (wrap64 (14 + (wrap64 (6 * (l0.length : Int)))))).bind fun ad => (if ((ab ++ aa) ++ ac).size + ad.size ≤ 9223372036854775807 then ((pochoirref40_p16.f k 1).bind fun af => (if (((ab ++ aa) ++ ac) ++ ad).size + af.size ≤ 9223372036854775807 then ((pochoirref40_p16.f k (l0.length : Int)).bind fun ag => (if ((((ab ++ aa) ++ ac) ++ ad) ++ af).size + ag.size ≤ 9223372036854775807 then (if 0 < (ae.length : Int) then ((pochoirref40_p16.f k (rd ae 0)).bind fun ah => (if (((((ab ++ aa) ++ ac) ++ ad) ++ af) ++ ag).size + ah.size ≤ 9223372036854775807 then (if 1 < (ae.length : Int) then ((pochoirref40_p16.f k (rd ae 1)).bind fun ai => (if ((((((ab ++ aa) ++ ac) ++ ad) ++ af) ++ ag) ++ ah).size + ai.size ≤ 9223372036854775807 then (if 2 < (ae.length : Int) then ((pochoirref40_p16.f k (rd ae 2)).bind fun ak => (if (((((((ab ++ aa) ++ ac) ++ ad) ++ af) ++ ag) ++ ah) ++ ai).size + ak.size ≤ 9223372036854775807 then (pochoirref40_Make.l0 k l0 (l0.length : Int) ((((((((ab ++ aa) ++ ac) ++ ad) ++ af) ++ ag) ++ ah) ++ ai) ++ ak) 0) else (none))) else (none)) else (none))) else (none)) else (none))) else (none)) else (none))) else (none))) else (none))) else (none))) else (none)))) = some (r1, r2) := H
  have A4 := Aside0.mk A40
  clear A40
  replace H := Option.bind_eq_some_iff.mp H
  obtain ⟨ab, A50, H⟩ := H
  replace H : ((pochoirref40_p16.f k 1).bind fun aa => (if ab.size + aa.size ≤ 9223372036854775807 then ((pochoirref40_p16.f k 0).bind fun ac => (if (ab ++ aa).size + ac.size ≤ 9223372036854775807 then ((pochoirref40_p16.f k (wrap64 (14 + (wrap64 (6 * (l0.length : Int)))))).bind fun ad => (if ((ab ++ aa) ++ ac).size + ad.size ≤ 9223372036854775807 then ((pochoirref40_p16.f k 1).bind fun af => (if (((ab ++ aa) ++ ac) ++ ad).size + af.size ≤ 9223372036854775807 then ((pochoirref40_p16.f k (l0.length : Int)).bind fun ag => (if ((((ab ++ aa) ++ ac) ++ ad) ++ af).size + ag.size ≤ 9223372036854775807 then (if 0 < (ae.length : Int) then ((pochoirref40_p16.f k (rd ae 0)).bind fun ah => (if (((((ab ++ aa) ++ ac) ++ ad) ++ af) ++ ag).size + ah.size ≤ 9223372036854775807 then (if 1 < (ae.length : Int) then ((pochoirref40_p16.f k (rd ae 1)).bind fun ai => (if ((((((ab ++ aa) ++ ac) ++ ad) ++ af) ++ ag) ++ ah).size + ai.size ≤ 9223372036854775807 then (if 2 < (ae.length : Int) then ((pochoirref40_p16.f k (rd ae 2)).bind fun ak => (if (((((((ab ++ aa) ++ ac) ++ ad) ++ af) ++ ag) ++ ah) ++ ai).size + ak.size ≤ 9223372036854775807 then (pochoirref40_Make.l0 k l0 (l0.length : Int) ((((((((ab ++ aa) ++ ac) ++ ad) ++ af) ++ ag) ++ ah) ++ ai) ++ ak) 0) else (none))) else (none)) else (none))) else (none)) else (none))) else (none)) else (none))) else (none))) else (none))) else (none))) else (none))) = some (r1, r2) := H
  have A5 := Aside0.mk A50
  clear A50
  replace H := Option.bind_eq_some_iff.mp H
  obtain ⟨aa, A60, H⟩ := H
  replace H : (if ab.size + aa.size ≤ 9223372036854775807 then ((pochoirref40_p16.f k 0).bind fun ac => (if (ab ++ aa).size + ac.size ≤ 9223372036854775807 then ((pochoirref40_p16.f k (wrap64 (14 + (wrap64 (6 * (l0.length : Int)))))).bind fun ad => (if ((ab ++ aa) ++ ac).size + ad.size ≤ 9223372036854775807 then ((pochoirref40_p16.f k 1).bind fun af => (if (((ab ++ aa) ++ ac) ++ ad).size + af.size ≤ 9223372036854775807 then ((pochoirref40_p16.f k (l0.length : Int)).bind fun ag => (if ((((ab ++ aa) ++ ac) ++ ad) ++ af).size + ag.size ≤ 9223372036854775807 then (if 0 < (ae.length : Int) then ((pochoirref40_p16.f k (rd ae 0)).bind fun ah => (if (((((ab ++ aa) ++ ac) ++ ad) ++ af) ++ ag).size + ah.size ≤ 9223372036854775807 then (if 1 < (ae.length : Int) then ((pochoirref40_p16.f k (rd ae 1)).bind fun ai => (if ((((((ab ++ aa) ++ ac) ++ ad) ++ af) ++ ag) ++ ah).size + ai.size ≤ 9223372036854775807 then (if 2 < (ae.length : Int) then ((pochoirref40_p16.f k (rd ae 2)).bind fun ak => (if (((((((ab ++ aa) ++ ac) ++ ad) ++ af) ++ ag) ++ ah) ++ ai).size + ak.size ≤ 9223372036854775807 then (pochoirref40_Make.l0 k l0 (l0.length : Int) ((((((((ab ++ aa) ++ ac) ++ ad) ++ af) ++ ag) ++ ah) ++ ai) ++ ak) 0) else (none))) else (none)) else (none))) else (none)) else (none))) else (none)) else (none))) else (none))) else (none))) else (none))) else (none)) = some (r1, r2) := H
  have A6 := Aside0.mk A60
  clear A60
  by_cases c7 : ab.size + aa.size ≤ 9223372036854775807
  ·rw [if_pos c7] at H
   have bD := eq_true c7
   have bE : decide (ab.size + aa.size ≤ 9223372036854775807) = true := decide_eq_true c7
   try have bF : (9223372036854775807 < ab.size + aa.size) = False := eq_false (Nat.not_lt.2 c7)
   replace H := Option.bind_eq_some_iff.mp H
   obtain ⟨ac, A80, H⟩ := H
   replace H : (if (ab ++ aa).size + ac.size ≤ 9223372036854775807 then ((pochoirref40_p16.f k (wrap64 (14 + (wrap64 (6 * (l0.length : Int)))))).bind fun ad => (if ((ab ++ aa) ++ ac).size + ad.size ≤ 9223372036854775807 then ((pochoirref40_p16.f k 1).bind fun af => (if (((ab ++ aa) ++ ac) ++ ad).size + af.size ≤ 9223372036854775807 then ((pochoirref40_p16.f k (l0.length : Int)).bind fun ag => (if ((((ab ++ aa) ++ ac) ++ ad) ++ af).size + ag.size ≤ 9223372036854775807 then (if 0 < (ae.length : Int) then ((pochoirref40_p16.f k (rd ae 0)).bind fun ah => (if (((((ab ++ aa) ++ ac) ++ ad) ++ af) ++ ag).size + ah.size ≤ 9223372036854775807 then (if 1 < (ae.length : Int) then ((pochoirref40_p16.f k (rd ae 1)).bind fun ai => (if ((((((ab ++ aa) ++ ac) ++ ad) ++ af) ++ ag) ++ ah).size + ai.size ≤ 9223372036854775807 then (if 2 < (ae.length : Int) then ((pochoirref40_p16.f k (rd ae 2)).bind fun ak => (if (((((((ab ++ aa) ++ ac) ++ ad) ++ af) ++ ag) ++ ah) ++ ai).size + ak.size ≤ 9223372036854775807 then (pochoirref40_Make.l0 k l0 (l0.length : Int) ((((((((ab ++ aa) ++ ac) ++ ad) ++ af) ++ ag) ++ ah) ++ ai) ++ ak) 0) else (none))) else (none)) else (none))) else (none)) else (none))) else (none)) else (none))) else (none))) else (none))) else (none)) = some (r1, r2) := H
   have A8 := Aside0.mk A80
   clear A80
   by_cases c9 : (ab ++ aa).size + ac.size ≤ 9223372036854775807
   ·rw [if_pos c9] at H
    have bG := eq_true c9
    have bH : decide ((ab ++ aa).size + ac.size ≤ 9223372036854775807) = true := decide_eq_true c9
    try have a3 : (9223372036854775807 < (ab ++ aa).size + ac.size) = False := eq_false (Nat.not_lt.2 c9)
    have bI := a3
    try simp only [ByteArray.size_append] at bI
    replace H := Option.bind_eq_some_iff.mp H
    obtain ⟨ad, A100, H⟩ := H
    replace H : (if ((ab ++ aa) ++ ac).size + ad.size ≤ 9223372036854775807 then ((pochoirref40_p16.f k 1).bind fun af => (if (((ab ++ aa) ++ ac) ++ ad).size + af.size ≤ 9223372036854775807 then ((pochoirref40_p16.f k (l0.length : Int)).bind fun ag => (if ((((ab ++ aa) ++ ac) ++ ad) ++ af).size + ag.size ≤ 9223372036854775807 then (if 0 < (ae.length : Int) then ((pochoirref40_p16.f k (rd ae 0)).bind fun ah => (if (((((ab ++ aa) ++ ac) ++ ad) ++ af) ++ ag).size + ah.size ≤ 9223372036854775807 then (if 1 < (ae.length : Int) then ((pochoirref40_p16.f k (rd ae 1)).bind fun ai => (if ((((((ab ++ aa) ++ ac) ++ ad) ++ af) ++ ag) ++ ah).size + ai.size ≤ 9223372036854775807 then (if 2 < (ae.length : Int) then ((pochoirref40_p16.f k (rd ae 2)).bind fun ak => (if (((((((ab ++ aa) ++ ac) ++ ad) ++ af) ++ ag) ++ ah) ++ ai).size + ak.size ≤ 9223372036854775807 then (pochoirref40_Make.l0 k l0 (l0.length : Int) ((((((((ab ++ aa) ++ ac) ++ ad) ++ af) ++ ag) ++ ah) ++ ai) ++ ak) 0) else (none))) else (none)) else (none))) else (none)) else (none))) else (none)) else (none))) else (none))) else (none)) = some (r1, r2) := H
    have A10 := Aside0.mk A100
    clear A100
    by_cases c11 : ((ab ++ aa) ++ ac).size + ad.size ≤ 9223372036854775807
    ·rw [if_pos c11] at H
     have a4 := eq_true c11
     have a5 : decide (((ab ++ aa) ++ ac).size + ad.size ≤ 9223372036854775807) = true := decide_eq_true c11
     try have aU : (9223372036854775807 < ((ab ++ aa) ++ ac).size + ad.size) = False := eq_false (Nat.not_lt.2 c11)
     have a6 := aU
     try simp only [ByteArray.size_append] at a6
     replace H := Option.bind_eq_some_iff.mp H
     obtain ⟨af, A120, H⟩ := H
     replace H : (if (((ab ++ aa) ++ ac) ++ ad).size + af.size ≤ 9223372036854775807 then ((pochoirref40_p16.f k (l0.length : Int)).bind fun ag => (if ((((ab ++ aa) ++ ac) ++ ad) ++ af).size + ag.size ≤ 9223372036854775807 then (if 0 < (ae.length : Int) then ((pochoirref40_p16.f k (rd ae 0)).bind fun ah => (if (((((ab ++ aa) ++ ac) ++ ad) ++ af) ++ ag).size + ah.size ≤ 9223372036854775807 then (if 1 < (ae.length : Int) then ((pochoirref40_p16.f k (rd ae 1)).bind fun ai => (if ((((((ab ++ aa) ++ ac) ++ ad) ++ af) ++ ag) ++ ah).size + ai.size ≤ 9223372036854775807 then (if 2 < (ae.length : Int) then ((pochoirref40_p16.f k (rd ae 2)).bind fun ak => (if (((((((ab ++ aa) ++ ac) ++ ad) ++ af) ++ ag) ++ ah) ++ ai).size + ak.size ≤ 9223372036854775807 then (pochoirref40_Make.l0 k l0 (l0.length : Int) ((((((((ab ++ aa) ++ ac) ++ ad) ++ af) ++ ag) ++ ah) ++ ai) ++ ak) 0) else (none))) else (none)) else (none))) else (none)) else (none))) else (none)) else (none))) else (none)) = some (r1, r2) := H
     have A12 := Aside0.mk A120
     clear A120
     by_cases c13 : (((ab ++ aa) ++ ac) ++ ad).size + af.size ≤ 9223372036854775807
     ·rw [if_pos c13] at H
      have a7 := eq_true c13
      have a8 : decide ((((ab ++ aa) ++ ac) ++ ad).size + af.size ≤ 9223372036854775807) = true := decide_eq_true c13
      try have aV : (9223372036854775807 < (((ab ++ aa) ++ ac) ++ ad).size + af.size) = False := eq_false (Nat.not_lt.2 c13)
      have a9 := aV
      try simp only [ByteArray.size_append] at a9
      replace H := Option.bind_eq_some_iff.mp H
      obtain ⟨ag, A140, H⟩ := H
      replace H : (if ((((ab ++ aa) ++ ac) ++ ad) ++ af).size + ag.size ≤ 9223372036854775807 then (if 0 < (ae.length : Int) then ((pochoirref40_p16.f k (rd ae 0)).bind fun ah => (if (((((ab ++ aa) ++ ac) ++ ad) ++ af) ++ ag).size + ah.size ≤ 9223372036854775807 then (if 1 < (ae.length : Int) then ((pochoirref40_p16.f k (rd ae 1)).bind fun ai => (if ((((((ab ++ aa) ++ ac) ++ ad) ++ af) ++ ag) ++ ah).size + ai.size ≤ 9223372036854775807 then (if 2 < (ae.length : Int) then ((pochoirref40_p16.f k (rd ae 2)).bind fun ak => (if (((((((ab ++ aa) ++ ac) ++ ad) ++ af) ++ ag) ++ ah) ++ ai).size + ak.size ≤ 9223372036854775807 then (pochoirref40_Make.l0 k l0 (l0.length : Int) ((((((((ab ++ aa) ++ ac) ++ ad) ++ af) ++ ag) ++ ah) ++ ai) ++ ak) 0) else (none))) else (none)) else (none))) else (none)) else (none))) else (none)) else (none)) = some (r1, r2) := H
      have A14 := Aside0.mk A140
      clear A140
      by_cases c15 : ((((ab ++ aa) ++ ac) ++ ad) ++ af).size + ag.size ≤ 9223372036854775807
      ·rw [if_pos c15] at H
       have ba := eq_true c15
       have bb : decide (((((ab ++ aa) ++ ac) ++ ad) ++ af).size + ag.size ≤ 9223372036854775807) = true := decide_eq_true c15
       try have aW : (9223372036854775807 < ((((ab ++ aa) ++ ac) ++ ad) ++ af).size + ag.size) = False := eq_false (Nat.not_lt.2 c15)
       have bc := aW
       try simp only [ByteArray.size_append] at bc
       by_cases c16 : 0 < (ae.length : Int)
       ·rw [if_pos c16] at H
        have bd : decide (0 < (ae.length : Int)) = true := decide_eq_true c16
        have be : decide (0 < ae.length) = true := decide_eq_true (by omega)
        clear c16
        replace H := Option.bind_eq_some_iff.mp H
        obtain ⟨ah, A170, H⟩ := H
        replace H : (if (((((ab ++ aa) ++ ac) ++ ad) ++ af) ++ ag).size + ah.size ≤ 9223372036854775807 then (if 1 < (ae.length : Int) then ((pochoirref40_p16.f k (rd ae 1)).bind fun ai => (if ((((((ab ++ aa) ++ ac) ++ ad) ++ af) ++ ag) ++ ah).size + ai.size ≤ 9223372036854775807 then (if 2 < (ae.length : Int) then ((pochoirref40_p16.f k (rd ae 2)).bind fun ak => (if (((((((ab ++ aa) ++ ac) ++ ad) ++ af) ++ ag) ++ ah) ++ ai).size + ak.size ≤ 9223372036854775807 then (pochoirref40_Make.l0 k l0 (l0.length : Int) ((((((((ab ++ aa) ++ ac) ++ ad) ++ af) ++ ag) ++ ah) ++ ai) ++ ak) 0) else (none))) else (none)) else (none))) else (none)) else (none)) = some (r1, r2) := H
        have A17 := Aside0.mk A170
        clear A170
        by_cases c18 : (((((ab ++ aa) ++ ac) ++ ad) ++ af) ++ ag).size + ah.size ≤ 9223372036854775807
        ·rw [if_pos c18] at H
         have bf := eq_true c18
         have bg : decide ((((((ab ++ aa) ++ ac) ++ ad) ++ af) ++ ag).size + ah.size ≤ 9223372036854775807) = true := decide_eq_true c18
         try have aX : (9223372036854775807 < (((((ab ++ aa) ++ ac) ++ ad) ++ af) ++ ag).size + ah.size) = False := eq_false (Nat.not_lt.2 c18)
         have bh := aX
         try simp only [ByteArray.size_append] at bh
         by_cases c19 : 1 < (ae.length : Int)
         ·rw [if_pos c19] at H
          have bi : decide (1 < (ae.length : Int)) = true := decide_eq_true c19
          have bj : decide (1 < ae.length) = true := decide_eq_true (by omega)
          clear c19
          replace H := Option.bind_eq_some_iff.mp H
          obtain ⟨ai, A200, H⟩ := H
          replace H : (if ((((((ab ++ aa) ++ ac) ++ ad) ++ af) ++ ag) ++ ah).size + ai.size ≤ 9223372036854775807 then (if 2 < (ae.length : Int) then ((pochoirref40_p16.f k (rd ae 2)).bind fun ak => (if (((((((ab ++ aa) ++ ac) ++ ad) ++ af) ++ ag) ++ ah) ++ ai).size + ak.size ≤ 9223372036854775807 then (pochoirref40_Make.l0 k l0 (l0.length : Int) ((((((((ab ++ aa) ++ ac) ++ ad) ++ af) ++ ag) ++ ah) ++ ai) ++ ak) 0) else (none))) else (none)) else (none)) = some (r1, r2) := H
          have A20 := Aside0.mk A200
          clear A200
          by_cases c21 : ((((((ab ++ aa) ++ ac) ++ ad) ++ af) ++ ag) ++ ah).size + ai.size ≤ 9223372036854775807
          ·rw [if_pos c21] at H
           have bk := eq_true c21
           have bl : decide (((((((ab ++ aa) ++ ac) ++ ad) ++ af) ++ ag) ++ ah).size + ai.size ≤ 9223372036854775807) = true := decide_eq_true c21
           try have aY : (9223372036854775807 < ((((((ab ++ aa) ++ ac) ++ ad) ++ af) ++ ag) ++ ah).size + ai.size) = False := eq_false (Nat.not_lt.2 c21)
           have bm := aY
           try simp only [ByteArray.size_append] at bm
           by_cases c22 : 2 < (ae.length : Int)
           ·rw [if_pos c22] at H
            have bn : decide (2 < (ae.length : Int)) = true := decide_eq_true c22
            have bo : decide (2 < ae.length) = true := decide_eq_true (by omega)
            clear c22
            replace H := Option.bind_eq_some_iff.mp H
            obtain ⟨ak, A230, H⟩ := H
            replace H : (if (((((((ab ++ aa) ++ ac) ++ ad) ++ af) ++ ag) ++ ah) ++ ai).size + ak.size ≤ 9223372036854775807 then (pochoirref40_Make.l0 k l0 (l0.length : Int) ((((((((ab ++ aa) ++ ac) ++ ad) ++ af) ++ ag) ++ ah) ++ ai) ++ ak) 0) else (none)) = some (r1, r2) := H
            have A23 := Aside0.mk A230
            clear A230
            by_cases c24 : (((((((ab ++ aa) ++ ac) ++ ad) ++ af) ++ ag) ++ ah) ++ ai).size + ak.size ≤ 9223372036854775807
            ·rw [if_pos c24] at H
             have bp := eq_true c24
             have bq : decide ((((((((ab ++ aa) ++ ac) ++ ad) ++ af) ++ ag) ++ ah) ++ ai).size + ak.size ≤ 9223372036854775807) = true := decide_eq_true c24
             try have aZ : (9223372036854775807 < (((((((ab ++ aa) ++ ac) ++ ad) ++ af) ++ ag) ++ ah) ++ ai).size + ak.size) = False := eq_false (Nat.not_lt.2 c24)
             have br := aZ
             try simp only [ByteArray.size_append] at br
             have H' := Aside0.mk H
             clear H
             go_enter Try.func8, Try.ntmps8
             try go_wp2_with (first | ((with_reducible refine gate_callee (f := 10) rfl ?_); refine goesL_ (some 9) rfl rfl Try.func10 (by kernel_rfl) rfl #[.slice A0 l0.length c0, .int .i64 1024] rfl (by (try simp only [List.map_toArray, List.map_cons, List.map_nil]); first | done | rfl | (simp only [List.length_drop, List.length_take]; rfl)) ?_; (with_reducible refine (pochoirref40_May.calls k _ _ l0 1024 true _ ?side1 ?side2 A2.out).mono ?_); (case side1 => repeat (first | exact HR0.out | (with_reducible refine Kd.C_alloc ?_ _) | (with_reducible refine Kd.C_drewN ?_ _) | (with_reducible refine Kd.C_drew ?_))); (case side2 => exact bB.out); rintro e bX ⟨rfl, hb⟩; refine ⟨_, rfl, ?_⟩; have am := Aside0.mk (below_step (by exact lB HB.out) hb); clear HB; have HB := am; clear am; (try clear hb); (try clear aD); (try clear hk); (try clear hi)) | ((with_reducible refine gate_callee (f := 23) rfl ?_); refine goesL_ (some 14) rfl rfl Try.func23 (by kernel_rfl) rfl #[.int .i64 (l0.length : Int)] rfl (by (try simp only [List.map_toArray, List.map_cons, List.map_nil]); first | done | rfl | (simp only [List.length_drop, List.length_take]; rfl)) ?_; (with_reducible refine (pochoirref40_three.calls k (l0.length : Int) ae _ A4.out).mono ?_); rintro e bK ⟨v202, rfl, bC, hb⟩; refine ⟨_, rfl, ?_⟩; have am := Aside0.mk (Kd.R_lower bC (below_size (by exact lB HB.out))); have ao := Aside0.mk (below_step (by exact lB HB.out) hb); clear HB; have al := am; have HB := ao; clear am ao; (try clear hb); (try clear aD); (try clear hk); (try clear hi); (try clear bC)))
             have am := Aside0.mk (Kd.R_drew al.out)
             have ao := Aside0.mk (below_drew1 HB.out)
             clear al
             clear HB
             have al := am
             have HB := ao
             clear am ao
             obtain ⟨bU, bV, eo28⟩ := Kd.R_slice al.out
             (first | subst eo28 | (injection eo28 with f1_ f2_ f3_; have f4_ := f1_.symm; have f5_ := f3_.symm; clear f1_ f2_ f3_; subst f4_; subst f5_))
             have p210 : 0 ≤ (0 : Int) := (by omega)
             have q210 : 0 < (ae.length : Int) := of_decide_eq_true (by first | (with_reducible assumption) | assumption)
             obtain ⟨ad210, e210, aG⟩ := Kd.at_int (Kd.R_reads' al.out).2.2 0 p210 q210
             cases e210
             have qi210 : (0 < ae.length) = True := eq_true (by omega)
             (try rw [show ((0 : Int)).toNat = 0 from rfl] at aG)
             (try rw [Addr.add_zero'] at aG)
             replace p210 := eq_true p210
             replace q210 := eq_true q210
             have p212 : 0 ≤ (1 : Int) := (by omega)
             have q212 : 1 < (ae.length : Int) := of_decide_eq_true (by first | (with_reducible assumption) | assumption)
             obtain ⟨ad212, e212, aH⟩ := Kd.at_int (Kd.R_reads' al.out).2.2 1 p212 q212
             obtain rfl : ad210 = ad212 := (by injection e212)
             (try simp only [show (1 : Int).toNat = 1 from rfl, Nat.reduceMul, Nat.reduceEqDiff, Go.Addr.add, ↓reduceIte] at aH)
             have qi212 : (1 < ae.length) = True := eq_true (by omega)
             (try rw [show ((1 : Int)).toNat = 1 from rfl] at aH)
             replace p212 := eq_true p212
             replace q212 := eq_true q212
             have p214 : 0 ≤ (2 : Int) := (by omega)
             have q214 : 2 < (ae.length : Int) := of_decide_eq_true (by first | (with_reducible assumption) | assumption)
             obtain ⟨ad214, e214, aI⟩ := Kd.at_int (Kd.R_reads' al.out).2.2 2 p214 q214
             obtain rfl : ad210 = ad214 := (by injection e214)
             (try simp only [show (2 : Int).toNat = 2 from rfl, Nat.reduceMul, Nat.reduceEqDiff, Go.Addr.add, ↓reduceIte] at aI)
             have qi214 : (2 < ae.length) = True := eq_true (by omega)
             (try rw [show ((2 : Int)).toNat = 2 from rfl] at aI)
             replace p214 := eq_true p214
             replace q214 := eq_true q214
             refine start_ (n := 31) (S := fun w' => w'.cell? ad210 = some (.int .i64 (rd ae 0)) ∧ w'.cell? ⟨ad210.block, ad210.off + 1, none⟩ = some (.int .i64 (rd ae 1)) ∧ w'.cell? ⟨ad210.block, ad210.off + 2, none⟩ = some (.int .i64 (rd ae 2))) (ds := []) #[false, false, false, false, false, false, false, false, false, false, false, false, false, false, false, false, false, false, false, false, false, false, false, false, false, false, false, false, false, false, false] (by kernel_rfl) rfl rfl ⟨aG, aH, aI⟩ (fun hHeld => ?_); refine with_tabW pochoirref40_Make.tab5 pochoirref40_Make.bits5 (fun HT_ HW_ => ?_)
             generalize bK.drew = bY at al HB aG aH aI hHeld ⊢
             refine pure_ (i := 5) (N := some 20) (v := ?_) (a' := ?_) #[false, false, false, false, false, true, false, false, false, false, false, false, false, false, false, false, false, false, false, false, false, false, false, false, false, false, false, false, false, false, false] rfl rfl (any_of HT_.out (by kernel_rfl)) (fun _ _ _ h => h) (Or.inl ⟨by rfl, ?_⟩) ?_ ?_
             rotate_left
             ·intro w'
              go_simp
              with_reducible rfl
             rotate_left
             ·exact pA
             refine pure_ (i := 6) (N := some 21) (v := ?_) (a' := ?_) #[false, false, false, false, false, true, true, false, false, false, false, false, false, false, false, false, false, false, false, false, false, false, false, false, false, false, false, false, false, false, false] rfl rfl (any_of HT_.out (by kernel_rfl)) (fun _ _ _ h => h) (Or.inl ⟨by rfl, ?_⟩) ?_ ?_
             rotate_left
             ·intro w'
              go_simp
              with_reducible rfl
             rotate_left
             ·exact pA
             refine pure_ (i := 7) (N := some 22) (v := ?_) (a' := ?_) #[false, false, false, false, false, true, true, true, false, false, false, false, false, false, false, false, false, false, false, false, false, false, false, false, false, false, false, false, false, false, false] rfl rfl (any_of HT_.out (by kernel_rfl)) (fun _ _ _ h => h) (Or.inl ⟨by rfl, ?_⟩) ?_ ?_
             rotate_left
             ·intro w'
              go_simp
              with_reducible rfl
             rotate_left
             ·exact pA
             refine pure_ (i := 12) (N := some 27) (v := ?_) (a' := ?_) #[false, false, false, false, false, true, true, true, false, false, false, false, true, false, false, false, false, false, false, false, false, false, false, false, false, false, false, false, false, false, false] rfl rfl (any_of HT_.out (by kernel_rfl)) (fun _ _ _ h => h) (Or.inl ⟨by rfl, ?_⟩) ?_ ?_
             rotate_left
             ·intro w'
              go_simp
              with_reducible rfl
             rotate_left
             ·exact pA
             refine pure_ (i := 15) (N := some 30) (v := ?_) (a' := ?_) #[false, false, false, false, false, true, true, true, false, false, false, false, true, false, false, true, false, false, false, false, false, false, false, false, false, false, false, false, false, false, false] rfl rfl (any_of HT_.out (by kernel_rfl)) (fun _ _ _ h => h) (Or.inl ⟨by rfl, ?_⟩) ?_ ?_
             rotate_left
             ·intro w'
              go_simp
              with_reducible rfl
             rotate_left
             ·exact pA
             refine pure_ (i := 16) (N := some 31) (v := ?_) (a' := ?_) #[false, false, false, false, false, true, true, true, false, false, false, false, true, false, false, true, true, false, false, false, false, false, false, false, false, false, false, false, false, false, false] rfl rfl (any_of HT_.out (by kernel_rfl)) (fun _ _ _ h => h) (Or.inl ⟨by rfl, ?_⟩) ?_ ?_
             rotate_left
             ·intro w'
              go_simp
              with_reducible rfl
             rotate_left
             ·exact pA
             refine pure_ (i := 20) (N := some 35) (v := ?_) (a' := ?_) #[false, false, false, false, false, true, true, true, false, false, false, false, true, false, false, true, true, false, false, false, true, false, false, false, false, false, false, false, false, false, false] rfl rfl (any_of HT_.out (by kernel_rfl)) (fun _ _ _ h => h) (Or.inl ⟨by rfl, ?_⟩) ?_ ?_
             rotate_left
             ·intro w'
              go_simp
              with_reducible rfl
             rotate_left
             ·exact pA
             refine pure_ (i := 21) (N := some 36) (v := ?_) (a' := ?_) #[false, false, false, false, false, true, true, true, false, false, false, false, true, false, false, true, true, false, false, false, true, true, false, false, false, false, false, false, false, false, false] rfl rfl (any_of HT_.out (by kernel_rfl)) (fun _ _ _ h => h) (Or.inl ⟨by rfl, ?_⟩) ?_ ?_
             rotate_left
             ·intro w'
              go_simp
              with_reducible rfl
             rotate_left
             ·exact pA
             refine pure_ (i := 25) (N := some 40) (v := ?_) (a' := ?_) #[false, false, false, false, false, true, true, true, false, false, false, false, true, false, false, true, true, false, false, false, true, true, false, false, false, true, false, false, false, false, false] rfl rfl (any_of HT_.out (by kernel_rfl)) (fun _ _ _ h => h) (Or.inl ⟨by rfl, ?_⟩) ?_ ?_
             rotate_left
             ·intro w'
              go_simp
              with_reducible rfl
             rotate_left
             ·exact pA
             refine pure_ (i := 26) (N := some 41) (v := ?_) (a' := ?_) #[false, false, false, false, false, true, true, true, false, false, false, false, true, false, false, true, true, false, false, false, true, true, false, false, false, true, true, false, false, false, false] rfl rfl (any_of HT_.out (by kernel_rfl)) (fun _ _ _ h => h) (Or.inl ⟨by rfl, ?_⟩) ?_ ?_
             rotate_left
             ·intro w'
              go_simp
              with_reducible rfl
             rotate_left
             ·exact pA
             refine take_ (i := 17) (N := some 32) (v := ?_) (a' := ?_) #[false, false, false, false, false, true, true, true, false, false, false, false, true, false, false, true, true, true, false, false, true, true, false, false, false, true, true, false, false, false, false] rfl rfl (take_ofW HT_.out HW_.out (by kernel_rfl)) (fun _ _ _ h => h) (Or.inl ⟨by rfl, ?_⟩) hHeld ?_ ?_
             rotate_left
             ·rintro w' ⟨s0, s1, s2⟩
              go_simp
              with_reducible rfl
             rotate_left
             ·exact pA
             refine take_ (i := 22) (N := some 37) (v := ?_) (a' := ?_) #[false, false, false, false, false, true, true, true, false, false, false, false, true, false, false, true, true, true, false, false, true, true, true, false, false, true, true, false, false, false, false] rfl rfl (take_ofW HT_.out HW_.out (by kernel_rfl)) (fun _ _ _ h => h) (Or.inl ⟨by rfl, ?_⟩) hHeld ?_ ?_
             rotate_left
             ·rintro w' ⟨s0, s1, s2⟩
              go_simp
              with_reducible rfl
             rotate_left
             ·exact pA
             refine take_ (i := 27) (N := some 42) (v := ?_) (a' := ?_) #[false, false, false, false, false, true, true, true, false, false, false, false, true, false, false, true, true, true, false, false, true, true, true, false, false, true, true, true, false, false, false] rfl rfl (take_ofW HT_.out HW_.out (by kernel_rfl)) (fun _ _ _ h => h) (Or.inl ⟨by rfl, ?_⟩) hHeld ?_ ?_
             rotate_left
             ·rintro w' ⟨s0, s1, s2⟩
              go_simp
              with_reducible rfl
             rotate_left
             ·exact pA
             refine one_ (i := 0) (N := some 15) #[true, false, false, false, false, true, true, true, false, false, false, false, true, false, false, true, true, true, false, false, true, true, true, false, false, true, true, true, false, false, false] rfl rfl (one_of HT_.out (by kernel_rfl)) (by decide) (fun K hK => ?_)
             refine goes_ Try.func24 (by kernel_rfl) rfl #[.int .i64 0] (by rfl) rfl rfl (by (try simp only [List.map_toArray, List.map_cons, List.map_nil]); first | done | rfl | (simp only [List.length_drop, List.length_take]; rfl)) ?_
             with_reducible refine (pochoirref40_p16.calls k 0 ab _ A5.out).mono ?_
             rintro e bZ ⟨rfl, hb⟩
             have HS0_ := (hb.cell (World.block_lt_of_cell? _ _ (hHeld.1))).trans (hHeld.1)
             have HS1_ := (hb.cell (World.block_lt_of_cell? _ _ (hHeld.2.1))).trans (hHeld.2.1)
             have HS2_ := (hb.cell (World.block_lt_of_cell? _ _ (hHeld.2.2))).trans (hHeld.2.2)
             refine ⟨_, rfl, ?_⟩
             have am := Aside0.mk (Kd.R_below (by (with_reducible repeat (first | apply Kd.R_alloc | apply Kd.R_drewN | apply Kd.R_drew)); exact al.out) hb)
             have ao := Aside0.mk (below_step (by exact lB HB.out) hb)
             clear al
             clear HB
             have al := am
             have HB := ao
             clear am ao
             (try clear hb)
             (try clear aD)
             (try clear hk)
             (try clear hi)
             refine hK.out _ _ ⟨HS0_, HS1_, HS2_⟩ (fun hHeld => ?_)
             clear hK K
             refine norm_ (a' := ?_) ?_ ?_
             rotate_left
             ·show Act.put _ (some 15) _ = _
              exact pA
             refine one_ (i := 1) (N := some 16) #[true, true, false, false, false, true, true, true, false, false, false, false, true, false, false, true, true, true, false, false, true, true, true, false, false, true, true, true, false, false, false] rfl rfl (one_of HT_.out (by kernel_rfl)) (by decide) (fun K hK => ?_)
             refine goes_ Try.func24 (by kernel_rfl) rfl #[.int .i64 1] (by rfl) rfl rfl (by (try simp only [List.map_toArray, List.map_cons, List.map_nil]); first | done | rfl | (simp only [List.length_drop, List.length_take]; rfl)) ?_
             with_reducible refine (pochoirref40_p16.calls k 1 aa _ A6.out).mono ?_
             rintro e b0 ⟨rfl, hb⟩
             have HS0_ := (hb.cell (World.block_lt_of_cell? _ _ (hHeld.1))).trans (hHeld.1)
             have HS1_ := (hb.cell (World.block_lt_of_cell? _ _ (hHeld.2.1))).trans (hHeld.2.1)
             have HS2_ := (hb.cell (World.block_lt_of_cell? _ _ (hHeld.2.2))).trans (hHeld.2.2)
             refine ⟨_, rfl, ?_⟩
             have am := Aside0.mk (Kd.R_below (by (with_reducible repeat (first | apply Kd.R_alloc | apply Kd.R_drewN | apply Kd.R_drew)); exact al.out) hb)
             have ao := Aside0.mk (below_step (by exact lB HB.out) hb)
             clear al
             clear HB
             have al := am
             have HB := ao
             clear am ao
             (try clear hb)
             (try clear aD)
             (try clear hk)
             (try clear hi)
             refine hK.out _ _ ⟨HS0_, HS1_, HS2_⟩ (fun hHeld => ?_)
             clear hK K
             refine norm_ (a' := ?_) ?_ ?_
             rotate_left
             ·show Act.put _ (some 16) _ = _
              exact pA
             refine pure_ (i := 2) (N := some 17) (v := ?_) (a' := ?_) #[true, true, true, false, false, true, true, true, false, false, false, false, true, false, false, true, true, true, false, false, true, true, true, false, false, true, true, true, false, false, false] rfl rfl (any_of HT_.out (by kernel_rfl)) (fun _ _ _ h => h) (Or.inl ⟨by rfl, ?_⟩) ?_ ?_
             rotate_left
             ·intro w'
              go_simp
              with_reducible rfl
             rotate_left
             ·exact pA
             refine one_ (i := 3) (N := some 18) #[true, true, true, true, false, true, true, true, false, false, false, false, true, false, false, true, true, true, false, false, true, true, true, false, false, true, true, true, false, false, false] rfl rfl (one_of HT_.out (by kernel_rfl)) (by decide) (fun K hK => ?_)
             refine goes_ Try.func24 (by kernel_rfl) rfl #[.int .i64 0] (by rfl) rfl rfl (by (try simp only [List.map_toArray, List.map_cons, List.map_nil]); first | done | rfl | (simp only [List.length_drop, List.length_take]; rfl)) ?_
             with_reducible refine (pochoirref40_p16.calls k 0 ac _ A8.out).mono ?_
             rintro e b1 ⟨rfl, hb⟩
             have HS0_ := (hb.cell (World.block_lt_of_cell? _ _ (hHeld.1))).trans (hHeld.1)
             have HS1_ := (hb.cell (World.block_lt_of_cell? _ _ (hHeld.2.1))).trans (hHeld.2.1)
             have HS2_ := (hb.cell (World.block_lt_of_cell? _ _ (hHeld.2.2))).trans (hHeld.2.2)
             refine ⟨_, rfl, ?_⟩
             have am := Aside0.mk (Kd.R_below (by (with_reducible repeat (first | apply Kd.R_alloc | apply Kd.R_drewN | apply Kd.R_drew)); exact al.out) hb)
             have ao := Aside0.mk (below_step (by exact lB HB.out) hb)
             clear al
             clear HB
             have al := am
             have HB := ao
             clear am ao
             (try clear hb)
             (try clear aD)
             (try clear hk)
             (try clear hi)
             refine hK.out _ _ ⟨HS0_, HS1_, HS2_⟩ (fun hHeld => ?_)
             clear hK K
             refine norm_ (a' := ?_) ?_ ?_
             rotate_left
             ·show Act.put _ (some 18) _ = _
              exact pA
             refine pure_ (i := 4) (N := some 19) (v := ?_) (a' := ?_) #[true, true, true, true, true, true, true, true, false, false, false, false, true, false, false, true, true, true, false, false, true, true, true, false, false, true, true, true, false, false, false] rfl rfl (any_of HT_.out (by kernel_rfl)) (fun _ _ _ h => h) (Or.inl ⟨by rfl, ?_⟩) ?_ ?_
             rotate_left
             ·intro w'
              go_simp
              with_reducible rfl
             rotate_left
             ·exact pA
             refine one_ (i := 8) (N := some 23) #[true, true, true, true, true, true, true, true, true, false, false, false, true, false, false, true, true, true, false, false, true, true, true, false, false, true, true, true, false, false, false] rfl rfl (one_of HT_.out (by kernel_rfl)) (by decide) (fun K hK => ?_)
             refine goes_ Try.func24 (by kernel_rfl) rfl #[.int .i64 (wrap64 (14 + (wrap64 (6 * (l0.length : Int)))))] (by rfl) rfl rfl (by (try simp only [List.map_toArray, List.map_cons, List.map_nil]); first | done | rfl | (simp only [List.length_drop, List.length_take]; rfl)) ?_
             with_reducible refine (pochoirref40_p16.calls k (wrap64 (14 + (wrap64 (6 * (l0.length : Int))))) ad _ A10.out).mono ?_
             rintro e b2 ⟨rfl, hb⟩
             have HS0_ := (hb.cell (World.block_lt_of_cell? _ _ (hHeld.1))).trans (hHeld.1)
             have HS1_ := (hb.cell (World.block_lt_of_cell? _ _ (hHeld.2.1))).trans (hHeld.2.1)
             have HS2_ := (hb.cell (World.block_lt_of_cell? _ _ (hHeld.2.2))).trans (hHeld.2.2)
             refine ⟨_, rfl, ?_⟩
             have am := Aside0.mk (Kd.R_below (by (with_reducible repeat (first | apply Kd.R_alloc | apply Kd.R_drewN | apply Kd.R_drew)); exact al.out) hb)
             have ao := Aside0.mk (below_step (by exact lB HB.out) hb)
             clear al
             clear HB
             have al := am
             have HB := ao
             clear am ao
             (try clear hb)
             (try clear aD)
             (try clear hk)
             (try clear hi)
             refine hK.out _ _ ⟨HS0_, HS1_, HS2_⟩ (fun hHeld => ?_)
             clear hK K
             refine norm_ (a' := ?_) ?_ ?_
             rotate_left
             ·show Act.put _ (some 23) _ = _
              exact pA
             refine pure_ (i := 9) (N := some 24) (v := ?_) (a' := ?_) #[true, true, true, true, true, true, true, true, true, true, false, false, true, false, false, true, true, true, false, false, true, true, true, false, false, true, true, true, false, false, false] rfl rfl (any_of HT_.out (by kernel_rfl)) (fun _ _ _ h => h) (Or.inl ⟨by rfl, ?_⟩) ?_ ?_
             rotate_left
             ·intro w'
              go_simp
              with_reducible rfl
             rotate_left
             ·exact pA
             refine one_ (i := 10) (N := some 25) #[true, true, true, true, true, true, true, true, true, true, true, false, true, false, false, true, true, true, false, false, true, true, true, false, false, true, true, true, false, false, false] rfl rfl (one_of HT_.out (by kernel_rfl)) (by decide) (fun K hK => ?_)
             refine goes_ Try.func24 (by kernel_rfl) rfl #[.int .i64 1] (by rfl) rfl rfl (by (try simp only [List.map_toArray, List.map_cons, List.map_nil]); first | done | rfl | (simp only [List.length_drop, List.length_take]; rfl)) ?_
             with_reducible refine (pochoirref40_p16.calls k 1 af _ A12.out).mono ?_
             rintro e b3 ⟨rfl, hb⟩
             have HS0_ := (hb.cell (World.block_lt_of_cell? _ _ (hHeld.1))).trans (hHeld.1)
             have HS1_ := (hb.cell (World.block_lt_of_cell? _ _ (hHeld.2.1))).trans (hHeld.2.1)
             have HS2_ := (hb.cell (World.block_lt_of_cell? _ _ (hHeld.2.2))).trans (hHeld.2.2)
             refine ⟨_, rfl, ?_⟩
             have am := Aside0.mk (Kd.R_below (by (with_reducible repeat (first | apply Kd.R_alloc | apply Kd.R_drewN | apply Kd.R_drew)); exact al.out) hb)
             have ao := Aside0.mk (below_step (by exact lB HB.out) hb)
             clear al
             clear HB
             have al := am
             have HB := ao
             clear am ao
             (try clear hb)
             (try clear aD)
             (try clear hk)
             (try clear hi)
             refine hK.out _ _ ⟨HS0_, HS1_, HS2_⟩ (fun hHeld => ?_)
             clear hK K
             refine norm_ (a' := ?_) ?_ ?_
             rotate_left
             ·show Act.put _ (some 25) _ = _
              exact pA
             refine pure_ (i := 11) (N := some 26) (v := ?_) (a' := ?_) #[true, true, true, true, true, true, true, true, true, true, true, true, true, false, false, true, true, true, false, false, true, true, true, false, false, true, true, true, false, false, false] rfl rfl (any_of HT_.out (by kernel_rfl)) (fun _ _ _ h => h) (Or.inl ⟨by rfl, ?_⟩) ?_ ?_
             rotate_left
             ·intro w'
              go_simp
              with_reducible rfl
             rotate_left
             ·exact pA
             refine one_ (i := 13) (N := some 28) #[true, true, true, true, true, true, true, true, true, true, true, true, true, true, false, true, true, true, false, false, true, true, true, false, false, true, true, true, false, false, false] rfl rfl (one_of HT_.out (by kernel_rfl)) (by decide) (fun K hK => ?_)
             refine goes_ Try.func24 (by kernel_rfl) rfl #[.int .i64 (l0.length : Int)] (by rfl) rfl rfl (by (try simp only [List.map_toArray, List.map_cons, List.map_nil]); first | done | rfl | (simp only [List.length_drop, List.length_take]; rfl)) ?_
             with_reducible refine (pochoirref40_p16.calls k (l0.length : Int) ag _ A14.out).mono ?_
             rintro e b4 ⟨rfl, hb⟩
             have HS0_ := (hb.cell (World.block_lt_of_cell? _ _ (hHeld.1))).trans (hHeld.1)
             have HS1_ := (hb.cell (World.block_lt_of_cell? _ _ (hHeld.2.1))).trans (hHeld.2.1)
             have HS2_ := (hb.cell (World.block_lt_of_cell? _ _ (hHeld.2.2))).trans (hHeld.2.2)
             refine ⟨_, rfl, ?_⟩
             have am := Aside0.mk (Kd.R_below (by (with_reducible repeat (first | apply Kd.R_alloc | apply Kd.R_drewN | apply Kd.R_drew)); exact al.out) hb)
             have ao := Aside0.mk (below_step (by exact lB HB.out) hb)
             clear al
             clear HB
             have al := am
             have HB := ao
             clear am ao
             (try clear hb)
             (try clear aD)
             (try clear hk)
             (try clear hi)
             refine hK.out _ _ ⟨HS0_, HS1_, HS2_⟩ (fun hHeld => ?_)
             clear hK K
             refine norm_ (a' := ?_) ?_ ?_
             rotate_left
             ·show Act.put _ (some 28) _ = _
              exact pA
             refine pure_ (i := 14) (N := some 29) (v := ?_) (a' := ?_) #[true, true, true, true, true, true, true, true, true, true, true, true, true, true, true, true, true, true, false, false, true, true, true, false, false, true, true, true, false, false, false] rfl rfl (any_of HT_.out (by kernel_rfl)) (fun _ _ _ h => h) (Or.inl ⟨by rfl, ?_⟩) ?_ ?_
             rotate_left
             ·intro w'
              go_simp
              with_reducible rfl
             rotate_left
             ·exact pA
             refine one_ (i := 18) (N := some 33) #[true, true, true, true, true, true, true, true, true, true, true, true, true, true, true, true, true, true, true, false, true, true, true, false, false, true, true, true, false, false, false] rfl rfl (one_of HT_.out (by kernel_rfl)) (by decide) (fun K hK => ?_)
             refine goes_ Try.func24 (by kernel_rfl) rfl #[.int .i64 (rd ae 0)] (by rfl) rfl rfl (by (try simp only [List.map_toArray, List.map_cons, List.map_nil]); first | done | rfl | (simp only [List.length_drop, List.length_take]; rfl)) ?_
             with_reducible refine (pochoirref40_p16.calls k (rd ae 0) ah _ A17.out).mono ?_
             rintro e b5 ⟨rfl, hb⟩
             have HS0_ := (hb.cell (World.block_lt_of_cell? _ _ (hHeld.1))).trans (hHeld.1)
             have HS1_ := (hb.cell (World.block_lt_of_cell? _ _ (hHeld.2.1))).trans (hHeld.2.1)
             have HS2_ := (hb.cell (World.block_lt_of_cell? _ _ (hHeld.2.2))).trans (hHeld.2.2)
             refine ⟨_, rfl, ?_⟩
             have am := Aside0.mk (Kd.R_below (by (with_reducible repeat (first | apply Kd.R_alloc | apply Kd.R_drewN | apply Kd.R_drew)); exact al.out) hb)
             have ao := Aside0.mk (below_step (by exact lB HB.out) hb)
             clear al
             clear HB
             have al := am
             have HB := ao
             clear am ao
             (try clear hb)
             (try clear aD)
             (try clear hk)
             (try clear hi)
             refine hK.out _ _ ⟨HS0_, HS1_, HS2_⟩ (fun hHeld => ?_)
             clear hK K
             refine norm_ (a' := ?_) ?_ ?_
             rotate_left
             ·show Act.put _ (some 33) _ = _
              exact pA
             refine pure_ (i := 19) (N := some 34) (v := ?_) (a' := ?_) #[true, true, true, true, true, true, true, true, true, true, true, true, true, true, true, true, true, true, true, true, true, true, true, false, false, true, true, true, false, false, false] rfl rfl (any_of HT_.out (by kernel_rfl)) (fun _ _ _ h => h) (Or.inl ⟨by rfl, ?_⟩) ?_ ?_
             rotate_left
             ·intro w'
              go_simp
              with_reducible rfl
             rotate_left
             ·exact pA
             refine one_ (i := 23) (N := some 38) #[true, true, true, true, true, true, true, true, true, true, true, true, true, true, true, true, true, true, true, true, true, true, true, true, false, true, true, true, false, false, false] rfl rfl (one_of HT_.out (by kernel_rfl)) (by decide) (fun K hK => ?_)
             refine goes_ Try.func24 (by kernel_rfl) rfl #[.int .i64 (rd ae 1)] (by rfl) rfl rfl (by (try simp only [List.map_toArray, List.map_cons, List.map_nil]); first | done | rfl | (simp only [List.length_drop, List.length_take]; rfl)) ?_
             with_reducible refine (pochoirref40_p16.calls k (rd ae 1) ai _ A20.out).mono ?_
             rintro e b6 ⟨rfl, hb⟩
             have HS0_ := (hb.cell (World.block_lt_of_cell? _ _ (hHeld.1))).trans (hHeld.1)
             have HS1_ := (hb.cell (World.block_lt_of_cell? _ _ (hHeld.2.1))).trans (hHeld.2.1)
             have HS2_ := (hb.cell (World.block_lt_of_cell? _ _ (hHeld.2.2))).trans (hHeld.2.2)
             refine ⟨_, rfl, ?_⟩
             have am := Aside0.mk (Kd.R_below (by (with_reducible repeat (first | apply Kd.R_alloc | apply Kd.R_drewN | apply Kd.R_drew)); exact al.out) hb)
             have ao := Aside0.mk (below_step (by exact lB HB.out) hb)
             clear al
             clear HB
             have al := am
             have HB := ao
             clear am ao
             (try clear hb)
             (try clear aD)
             (try clear hk)
             (try clear hi)
             refine hK.out _ _ ⟨HS0_, HS1_, HS2_⟩ (fun hHeld => ?_)
             clear hK K
             refine norm_ (a' := ?_) ?_ ?_
             rotate_left
             ·show Act.put _ (some 38) _ = _
              exact pA
             refine pure_ (i := 24) (N := some 39) (v := ?_) (a' := ?_) #[true, true, true, true, true, true, true, true, true, true, true, true, true, true, true, true, true, true, true, true, true, true, true, true, true, true, true, true, false, false, false] rfl rfl (any_of HT_.out (by kernel_rfl)) (fun _ _ _ h => h) (Or.inl ⟨by rfl, ?_⟩) ?_ ?_
             rotate_left
             ·intro w'
              go_simp
              with_reducible rfl
             rotate_left
             ·exact pA
             refine one_ (i := 28) (N := some 43) #[true, true, true, true, true, true, true, true, true, true, true, true, true, true, true, true, true, true, true, true, true, true, true, true, true, true, true, true, true, false, false] rfl rfl (one_of HT_.out (by kernel_rfl)) (by decide) (fun K hK => ?_)
             refine goes_ Try.func24 (by kernel_rfl) rfl #[.int .i64 (rd ae 2)] (by rfl) rfl rfl (by (try simp only [List.map_toArray, List.map_cons, List.map_nil]); first | done | rfl | (simp only [List.length_drop, List.length_take]; rfl)) ?_
             with_reducible refine (pochoirref40_p16.calls k (rd ae 2) ak _ A23.out).mono ?_
             rintro e b7 ⟨rfl, hb⟩
             have HS0_ := (hb.cell (World.block_lt_of_cell? _ _ (hHeld.1))).trans (hHeld.1)
             have HS1_ := (hb.cell (World.block_lt_of_cell? _ _ (hHeld.2.1))).trans (hHeld.2.1)
             have HS2_ := (hb.cell (World.block_lt_of_cell? _ _ (hHeld.2.2))).trans (hHeld.2.2)
             refine ⟨_, rfl, ?_⟩
             have am := Aside0.mk (Kd.R_below (by (with_reducible repeat (first | apply Kd.R_alloc | apply Kd.R_drewN | apply Kd.R_drew)); exact al.out) hb)
             have ao := Aside0.mk (below_step (by exact lB HB.out) hb)
             clear al
             clear HB
             have al := am
             have HB := ao
             clear am ao
             (try clear hb)
             (try clear aD)
             (try clear hk)
             (try clear hi)
             refine hK.out _ _ ⟨HS0_, HS1_, HS2_⟩ (fun hHeld => ?_)
             clear hK K
             refine norm_ (a' := ?_) ?_ ?_
             rotate_left
             ·show Act.put _ (some 43) _ = _
              exact pA
             refine pure_ (i := 29) (N := some 44) (v := ?_) (a' := ?_) #[true, true, true, true, true, true, true, true, true, true, true, true, true, true, true, true, true, true, true, true, true, true, true, true, true, true, true, true, true, true, false] rfl rfl (any_of HT_.out (by kernel_rfl)) (fun _ _ _ h => h) (Or.inl ⟨by rfl, ?_⟩) ?_ ?_
             rotate_left
             ·intro w'
              go_simp
              with_reducible rfl
             rotate_left
             ·exact pA
             refine pure_ (i := 30) (N := some 6) (v := ?_) (a' := ?_) #[true, true, true, true, true, true, true, true, true, true, true, true, true, true, true, true, true, true, true, true, true, true, true, true, true, true, true, true, true, true, true] rfl rfl (any_of HT_.out (by kernel_rfl)) (fun _ _ _ h => h) (Or.inl ⟨by rfl, ?_⟩) ?_ ?_
             rotate_left
             ·intro w'
              go_simp
              with_reducible rfl
             rotate_left
             ·exact pA
             refine done_ (done_of HT_.out (by kernel_rfl)) ?_
             try go_wp2
             go_loopg [6, 7] k (fun kq v6 v7 w' => ∃ (ap : ByteArray) (aj : Int), v6 = .string ap ∧ v7 = .int .i64 aj ∧ Aside0 (pochoirref40_Make.l0 kq l0 (l0.length : Int) ap aj = some (r1, r2)) ∧ Aside0 (kq ≤ k) ∧ Aside0 (Below w.heap.size w w'))
             case atStart => exact ⟨((((((((ab ++ aa) ++ ac) ++ ad) ++ af) ++ ag) ++ ah) ++ ai) ++ ak), (0), (by first | rfl | (simp; done) | (simp [*]; done)), (by first | rfl | (simp; done) | (simp [*]; done)), H', ⟨Nat.le_refl _⟩, ⟨by exact lB HB.out⟩⟩
             case round =>
              clear H'
              try clear c1
              try clear p1
              try clear c2
              try clear p2
              try clear q2
              try clear b8
              try clear qi2
              try clear c3
              try clear p6
              try clear c7
              try clear bD
              try clear bE
              try clear bF
              try clear c8
              try clear c9
              try clear bG
              try clear bH
              try clear a3
              try clear c10
              try clear c11
              try clear a4
              try clear a5
              try clear aU
              try clear c13
              try clear a7
              try clear a8
              try clear aV
              try clear c15
              try clear ba
              try clear bb
              try clear aW
              try clear c16
              try clear bd
              try clear be
              try clear p16
              try clear c18
              try clear bf
              try clear bg
              try clear aX
              try clear c19
              try clear bi
              try clear bj
              try clear c21
              try clear bk
              try clear bl
              try clear aY
              try clear p21
              try clear q21
              try clear bW
              try clear qi21
              try clear c22
              try clear bn
              try clear bo
              try clear c23
              try clear c24
              try clear bp
              try clear bq
              try clear aZ
              try clear aG
              try clear aH
              try clear aI
              try clear p210
              try clear p212
              try clear p214
              try clear q210
              try clear q212
              try clear q214
              obtain ⟨ap, aj, rfl, rfl, HA, HK1, HB⟩ := hrel
              cases gk with
              | zero => exact absurd HA.out (by simp [pochoirref40_Make.l0])
              | succ k1 =>
               have H := HA.out
               clear HA
               simp only [pochoirref40_Make.l0] at H
               by_cases c38 : aj < (l0.length : Int)
               ·rw [if_pos c38] at H
                have bs : decide (aj < (l0.length : Int)) = true := decide_eq_true c38
                clear c38
                by_cases c39 : 0 ≤ aj
                ·rw [if_pos c39] at H
                 have bL : decide (0 ≤ aj) = true := decide_eq_true c39
                 clear c39
                 by_cases c40 : aj < (l0.length : Int)
                 ·rw [if_pos c40] at H
                  have bM : decide (aj < (l0.length : Int)) = true := decide_eq_true c40
                  clear c40
                  replace H := Option.bind_eq_some_iff.mp H
                  obtain ⟨an, A410, H⟩ := H
                  replace H : (if ap.size + an.size ≤ 9223372036854775807 then ((pochoirref40_p16.f k1 ((rd_T41 l0 aj).f1)).bind fun aq => (if (ap ++ an).size + aq.size ≤ 9223372036854775807 then ((pochoirref40_p16.f k1 ((rd_T41 l0 aj).f2)).bind fun ar => (if ((ap ++ an) ++ aq).size + ar.size ≤ 9223372036854775807 then (pochoirref40_Make.l0 k1 l0 (l0.length : Int) (((ap ++ an) ++ aq) ++ ar) (wrap64 (aj + 1))) else (none))) else (none))) else (none)) = some (r1, r2) := H
                  have A41 := Aside0.mk A410
                  clear A410
                  by_cases c42 : ap.size + an.size ≤ 9223372036854775807
                  ·rw [if_pos c42] at H
                   have bN := eq_true c42
                   have bO : decide (ap.size + an.size ≤ 9223372036854775807) = true := decide_eq_true c42
                   try have bP : (9223372036854775807 < ap.size + an.size) = False := eq_false (Nat.not_lt.2 c42)
                   replace H := Option.bind_eq_some_iff.mp H
                   obtain ⟨aq, A430, H⟩ := H
                   replace H : (if (ap ++ an).size + aq.size ≤ 9223372036854775807 then ((pochoirref40_p16.f k1 ((rd_T41 l0 aj).f2)).bind fun ar => (if ((ap ++ an) ++ aq).size + ar.size ≤ 9223372036854775807 then (pochoirref40_Make.l0 k1 l0 (l0.length : Int) (((ap ++ an) ++ aq) ++ ar) (wrap64 (aj + 1))) else (none))) else (none)) = some (r1, r2) := H
                   have A43 := Aside0.mk A430
                   clear A430
                   by_cases c44 : (ap ++ an).size + aq.size ≤ 9223372036854775807
                   ·rw [if_pos c44] at H
                    have bQ := eq_true c44
                    have bR : decide ((ap ++ an).size + aq.size ≤ 9223372036854775807) = true := decide_eq_true c44
                    try have bu : (9223372036854775807 < (ap ++ an).size + aq.size) = False := eq_false (Nat.not_lt.2 c44)
                    have bv := bu
                    try simp only [ByteArray.size_append] at bv
                    replace H := Option.bind_eq_some_iff.mp H
                    obtain ⟨ar, A450, H⟩ := H
                    replace H : (if ((ap ++ an) ++ aq).size + ar.size ≤ 9223372036854775807 then (pochoirref40_Make.l0 k1 l0 (l0.length : Int) (((ap ++ an) ++ aq) ++ ar) (wrap64 (aj + 1))) else (none)) = some (r1, r2) := H
                    have A45 := Aside0.mk A450
                    clear A450
                    by_cases c46 : ((ap ++ an) ++ aq).size + ar.size ≤ 9223372036854775807
                    ·rw [if_pos c46] at H
                     have bS := eq_true c46
                     have bT : decide (((ap ++ an) ++ aq).size + ar.size ≤ 9223372036854775807) = true := decide_eq_true c46
                     try have bw : (9223372036854775807 < ((ap ++ an) ++ aq).size + ar.size) = False := eq_false (Nat.not_lt.2 c46)
                     have bx := bw
                     try simp only [ByteArray.size_append] at bx
                     have H' := Aside0.mk H
                     clear H
                     try go_wp2
                     have am := Aside0.mk (below_drew1 HB.out)
                     clear HB
                     have HB := am
                     clear am
                     have p216 : 0 ≤ (aj : Int) := of_decide_eq_true (by first | (with_reducible assumption) | assumption)
                     have q216 : aj < (l0.length : Int) := of_decide_eq_true (by first | (with_reducible assumption) | assumption)
                     obtain ⟨ad216, e216, aJ, aK, aL⟩ := at_T41 HR0.out aj p216 q216
                     have au := aL
                     have av := aK
                     have aw := aJ
                     cases e216
                     replace aJ := (HB.out.cell (World.block_lt_of_cell? w _ aJ)).trans aJ
                     replace aK := (HB.out.cell (World.block_lt_of_cell? w _ aK)).trans aK
                     replace aL := (HB.out.cell (World.block_lt_of_cell? w _ aL)).trans aL
                     replace p216 := eq_true p216
                     replace q216 := eq_true q216
                     have p218 : 0 ≤ (aj : Int) := of_decide_eq_true (by first | (with_reducible assumption) | assumption)
                     have q218 : aj < (l0.length : Int) := of_decide_eq_true (by first | (with_reducible assumption) | assumption)
                     obtain ⟨ad218, e218, aM, aN, aO⟩ := at_T41 HR0.out aj p218 q218
                     have ax := aO
                     have ay := aN
                     have az := aM
                     obtain rfl : ad216 = ad218 := (by injection e218)
                     replace aM := (HB.out.cell (World.block_lt_of_cell? w _ aM)).trans aM
                     replace aN := (HB.out.cell (World.block_lt_of_cell? w _ aN)).trans aN
                     replace aO := (HB.out.cell (World.block_lt_of_cell? w _ aO)).trans aO
                     replace p218 := eq_true p218
                     replace q218 := eq_true q218
                     have p220 : 0 ≤ (aj : Int) := of_decide_eq_true (by first | (with_reducible assumption) | assumption)
                     have q220 : aj < (l0.length : Int) := of_decide_eq_true (by first | (with_reducible assumption) | assumption)
                     obtain ⟨ad220, e220, aP, aQ, aR⟩ := at_T41 HR0.out aj p220 q220
                     have aA := aR
                     have aB := aQ
                     have aC := aP
                     obtain rfl : ad216 = ad220 := (by injection e220)
                     replace aP := (HB.out.cell (World.block_lt_of_cell? w _ aP)).trans aP
                     replace aQ := (HB.out.cell (World.block_lt_of_cell? w _ aQ)).trans aQ
                     replace aR := (HB.out.cell (World.block_lt_of_cell? w _ aR)).trans aR
                     replace p220 := eq_true p220
                     replace q220 := eq_true q220
                     refine start_ (n := 23) (S := fun w' => w'.cell? (ad216.add ((aj).toNat * 3)) = some (.int .i64 ((rd_T41 l0 aj).f0)) ∧ w'.cell? ⟨(ad216.add ((aj).toNat * 3)).block, (ad216.add ((aj).toNat * 3)).off + 1, none⟩ = some (.int .i64 ((rd_T41 l0 aj).f1)) ∧ w'.cell? ⟨(ad216.add ((aj).toNat * 3)).block, (ad216.add ((aj).toNat * 3)).off + 2, none⟩ = some (.int .i64 ((rd_T41 l0 aj).f2)) ∧ w'.cell? (ad216.add ((aj).toNat * 3)) = some (.int .i64 ((rd_T41 l0 aj).f0)) ∧ w'.cell? ⟨(ad216.add ((aj).toNat * 3)).block, (ad216.add ((aj).toNat * 3)).off + 1, none⟩ = some (.int .i64 ((rd_T41 l0 aj).f1)) ∧ w'.cell? ⟨(ad216.add ((aj).toNat * 3)).block, (ad216.add ((aj).toNat * 3)).off + 2, none⟩ = some (.int .i64 ((rd_T41 l0 aj).f2)) ∧ w'.cell? (ad216.add ((aj).toNat * 3)) = some (.int .i64 ((rd_T41 l0 aj).f0)) ∧ w'.cell? ⟨(ad216.add ((aj).toNat * 3)).block, (ad216.add ((aj).toNat * 3)).off + 1, none⟩ = some (.int .i64 ((rd_T41 l0 aj).f1)) ∧ w'.cell? ⟨(ad216.add ((aj).toNat * 3)).block, (ad216.add ((aj).toNat * 3)).off + 2, none⟩ = some (.int .i64 ((rd_T41 l0 aj).f2))) (ds := []) #[false, false, false, false, false, false, false, false, false, false, false, false, false, false, false, false, false, false, false, false, false, false, false] (by kernel_rfl) rfl rfl ⟨((HB.out.cell (World.block_lt_of_cell? w _ aw)).trans aw), ((HB.out.cell (World.block_lt_of_cell? w _ av)).trans av), ((HB.out.cell (World.block_lt_of_cell? w _ au)).trans au), ((HB.out.cell (World.block_lt_of_cell? w _ az)).trans az), ((HB.out.cell (World.block_lt_of_cell? w _ ay)).trans ay), ((HB.out.cell (World.block_lt_of_cell? w _ ax)).trans ax), ((HB.out.cell (World.block_lt_of_cell? w _ aC)).trans aC), ((HB.out.cell (World.block_lt_of_cell? w _ aB)).trans aB), ((HB.out.cell (World.block_lt_of_cell? w _ aA)).trans aA)⟩ (fun hHeld => ?_); refine with_tabW pochoirref40_Make.tab9 pochoirref40_Make.bits9 (fun HT_ HW_ => ?_)
                     generalize wr.drew = b9 at HB aJ aK aL aM aN aO aP aQ aR hHeld ⊢
                     refine pure_ (i := 0) (N := some 50) (v := ?_) (a' := ?_) #[true, false, false, false, false, false, false, false, false, false, false, false, false, false, false, false, false, false, false, false, false, false, false] rfl rfl (any_of HT_.out (by kernel_rfl)) (fun _ _ _ h => h) (Or.inl ⟨by rfl, ?_⟩) ?_ ?_
                     rotate_left
                     ·intro w'
                      go_simp
                      with_reducible rfl
                     rotate_left
                     ·exact pA
                     refine pure_ (i := 1) (N := some 51) (v := ?_) (a' := ?_) #[true, true, false, false, false, false, false, false, false, false, false, false, false, false, false, false, false, false, false, false, false, false, false] rfl rfl (any_of HT_.out (by kernel_rfl)) (fun _ _ _ h => h) (Or.inl ⟨by rfl, ?_⟩) ?_ ?_
                     rotate_left
                     ·intro w'
                      go_simp
                      with_reducible rfl
                     rotate_left
                     ·exact pA
                     refine pure_ (i := 2) (N := some 52) (v := ?_) (a' := ?_) #[true, true, true, false, false, false, false, false, false, false, false, false, false, false, false, false, false, false, false, false, false, false, false] rfl rfl (any_of HT_.out (by kernel_rfl)) (fun _ _ _ h => h) (Or.inl ⟨by rfl, ?_⟩) ?_ ?_
                     rotate_left
                     ·intro w'
                      go_simp
                      with_reducible rfl
                     rotate_left
                     ·exact pA
                     refine pure_ (i := 3) (N := some 53) (v := ?_) (a' := ?_) #[true, true, true, true, false, false, false, false, false, false, false, false, false, false, false, false, false, false, false, false, false, false, false] rfl rfl (any_of HT_.out (by kernel_rfl)) (fun _ _ _ h => h) (Or.inl ⟨by rfl, ?_⟩) ?_ ?_
                     rotate_left
                     ·intro w'
                      go_simp
                      with_reducible rfl
                     rotate_left
                     ·exact pA
                     refine pure_ (i := 4) (N := some 54) (v := ?_) (a' := ?_) #[true, true, true, true, true, false, false, false, false, false, false, false, false, false, false, false, false, false, false, false, false, false, false] rfl rfl (any_of HT_.out (by kernel_rfl)) (fun _ _ _ h => h) (Or.inl ⟨by rfl, ?_⟩) ?_ ?_
                     rotate_left
                     ·intro w'
                      go_simp
                      with_reducible rfl
                     rotate_left
                     ·exact pA
                     refine pure_ (i := 8) (N := some 58) (v := ?_) (a' := ?_) #[true, true, true, true, true, false, false, false, true, false, false, false, false, false, false, false, false, false, false, false, false, false, false] rfl rfl (any_of HT_.out (by kernel_rfl)) (fun _ _ _ h => h) (Or.inl ⟨by rfl, ?_⟩) ?_ ?_
                     rotate_left
                     ·intro w'
                      go_simp
                      with_reducible rfl
                     rotate_left
                     ·exact pA
                     refine pure_ (i := 9) (N := some 59) (v := ?_) (a' := ?_) #[true, true, true, true, true, false, false, false, true, true, false, false, false, false, false, false, false, false, false, false, false, false, false] rfl rfl (any_of HT_.out (by kernel_rfl)) (fun _ _ _ h => h) (Or.inl ⟨by rfl, ?_⟩) ?_ ?_
                     rotate_left
                     ·intro w'
                      go_simp
                      with_reducible rfl
                     rotate_left
                     ·exact pA
                     refine pure_ (i := 10) (N := some 60) (v := ?_) (a' := ?_) #[true, true, true, true, true, false, false, false, true, true, true, false, false, false, false, false, false, false, false, false, false, false, false] rfl rfl (any_of HT_.out (by kernel_rfl)) (fun _ _ _ h => h) (Or.inl ⟨by rfl, ?_⟩) ?_ ?_
                     rotate_left
                     ·intro w'
                      go_simp
                      with_reducible rfl
                     rotate_left
                     ·exact pA
                     refine pure_ (i := 11) (N := some 61) (v := ?_) (a' := ?_) #[true, true, true, true, true, false, false, false, true, true, true, true, false, false, false, false, false, false, false, false, false, false, false] rfl rfl (any_of HT_.out (by kernel_rfl)) (fun _ _ _ h => h) (Or.inl ⟨by rfl, ?_⟩) ?_ ?_
                     rotate_left
                     ·intro w'
                      go_simp
                      with_reducible rfl
                     rotate_left
                     ·exact pA
                     refine pure_ (i := 15) (N := some 65) (v := ?_) (a' := ?_) #[true, true, true, true, true, false, false, false, true, true, true, true, false, false, false, true, false, false, false, false, false, false, false] rfl rfl (any_of HT_.out (by kernel_rfl)) (fun _ _ _ h => h) (Or.inl ⟨by rfl, ?_⟩) ?_ ?_
                     rotate_left
                     ·intro w'
                      go_simp
                      with_reducible rfl
                     rotate_left
                     ·exact pA
                     refine pure_ (i := 16) (N := some 66) (v := ?_) (a' := ?_) #[true, true, true, true, true, false, false, false, true, true, true, true, false, false, false, true, true, false, false, false, false, false, false] rfl rfl (any_of HT_.out (by kernel_rfl)) (fun _ _ _ h => h) (Or.inl ⟨by rfl, ?_⟩) ?_ ?_
                     rotate_left
                     ·intro w'
                      go_simp
                      with_reducible rfl
                     rotate_left
                     ·exact pA
                     refine pure_ (i := 17) (N := some 67) (v := ?_) (a' := ?_) #[true, true, true, true, true, false, false, false, true, true, true, true, false, false, false, true, true, true, false, false, false, false, false] rfl rfl (any_of HT_.out (by kernel_rfl)) (fun _ _ _ h => h) (Or.inl ⟨by rfl, ?_⟩) ?_ ?_
                     rotate_left
                     ·intro w'
                      go_simp
                      with_reducible rfl
                     rotate_left
                     ·exact pA
                     refine pure_ (i := 18) (N := some 68) (v := ?_) (a' := ?_) #[true, true, true, true, true, false, false, false, true, true, true, true, false, false, false, true, true, true, true, false, false, false, false] rfl rfl (any_of HT_.out (by kernel_rfl)) (fun _ _ _ h => h) (Or.inl ⟨by rfl, ?_⟩) ?_ ?_
                     rotate_left
                     ·intro w'
                      go_simp
                      with_reducible rfl
                     rotate_left
                     ·exact pA
                     refine take_ (i := 5) (N := some 55) (v := ?_) (a' := ?_) #[true, true, true, true, true, true, false, false, true, true, true, true, false, false, false, true, true, true, true, false, false, false, false] rfl rfl (take_ofW HT_.out HW_.out (by kernel_rfl)) (fun _ _ _ h => h) (Or.inl ⟨by rfl, ?_⟩) hHeld ?_ ?_
                     rotate_left
                     ·rintro w' ⟨s0, s1, s2, s3, s4, s5, s6, s7, s8⟩
                      go_simp
                      with_reducible rfl
                     rotate_left
                     ·exact pA
                     refine take_ (i := 12) (N := some 62) (v := ?_) (a' := ?_) #[true, true, true, true, true, true, false, false, true, true, true, true, true, false, false, true, true, true, true, false, false, false, false] rfl rfl (take_ofW HT_.out HW_.out (by kernel_rfl)) (fun _ _ _ h => h) (Or.inl ⟨by rfl, ?_⟩) hHeld ?_ ?_
                     rotate_left
                     ·rintro w' ⟨s0, s1, s2, s3, s4, s5, s6, s7, s8⟩
                      go_simp
                      with_reducible rfl
                     rotate_left
                     ·exact pA
                     refine take_ (i := 19) (N := some 69) (v := ?_) (a' := ?_) #[true, true, true, true, true, true, false, false, true, true, true, true, true, false, false, true, true, true, true, true, false, false, false] rfl rfl (take_ofW HT_.out HW_.out (by kernel_rfl)) (fun _ _ _ h => h) (Or.inl ⟨by rfl, ?_⟩) hHeld ?_ ?_
                     rotate_left
                     ·rintro w' ⟨s0, s1, s2, s3, s4, s5, s6, s7, s8⟩
                      go_simp
                      with_reducible rfl
                     rotate_left
                     ·exact pA
                     refine one_ (i := 6) (N := some 56) #[true, true, true, true, true, true, true, false, true, true, true, true, true, false, false, true, true, true, true, true, false, false, false] rfl rfl (one_of HT_.out (by kernel_rfl)) (by decide) (fun K hK => ?_)
                     refine goes_ Try.func24 (by kernel_rfl) rfl #[.int .i64 ((rd_T41 l0 aj).f0)] (by rfl) rfl rfl (by (try simp only [List.map_toArray, List.map_cons, List.map_nil]); first | done | rfl | (simp only [List.length_drop, List.length_take]; rfl)) ?_
                     with_reducible refine (pochoirref40_p16.calls k1 ((rd_T41 l0 aj).f0) an _ A41.out).mono ?_
                     rintro e ca ⟨rfl, hb⟩
                     refine ⟨_, rfl, ?_⟩
                     have am := Aside0.mk (below_step (by exact lB HB.out) hb)
                     clear HB
                     have HB := am
                     clear am
                     (try clear hb)
                     (try clear aD)
                     (try clear hk)
                     (try clear hi)
                     refine hK.out _ _ ⟨((HB.out.cell (World.block_lt_of_cell? w _ aw)).trans aw), ((HB.out.cell (World.block_lt_of_cell? w _ av)).trans av), ((HB.out.cell (World.block_lt_of_cell? w _ au)).trans au), ((HB.out.cell (World.block_lt_of_cell? w _ az)).trans az), ((HB.out.cell (World.block_lt_of_cell? w _ ay)).trans ay), ((HB.out.cell (World.block_lt_of_cell? w _ ax)).trans ax), ((HB.out.cell (World.block_lt_of_cell? w _ aC)).trans aC), ((HB.out.cell (World.block_lt_of_cell? w _ aB)).trans aB), ((HB.out.cell (World.block_lt_of_cell? w _ aA)).trans aA)⟩ (fun hHeld => ?_)
                     clear hK K
                     refine norm_ (a' := ?_) ?_ ?_
                     rotate_left
                     ·show Act.put _ (some 56) _ = _
                      exact pA
                     refine pure_ (i := 7) (N := some 57) (v := ?_) (a' := ?_) #[true, true, true, true, true, true, true, true, true, true, true, true, true, false, false, true, true, true, true, true, false, false, false] rfl rfl (any_of HT_.out (by kernel_rfl)) (fun _ _ _ h => h) (Or.inl ⟨by rfl, ?_⟩) ?_ ?_
                     rotate_left
                     ·intro w'
                      go_simp
                      with_reducible rfl
                     rotate_left
                     ·exact pA
                     refine one_ (i := 13) (N := some 63) #[true, true, true, true, true, true, true, true, true, true, true, true, true, true, false, true, true, true, true, true, false, false, false] rfl rfl (one_of HT_.out (by kernel_rfl)) (by decide) (fun K hK => ?_)
                     refine goes_ Try.func24 (by kernel_rfl) rfl #[.int .i64 ((rd_T41 l0 aj).f1)] (by rfl) rfl rfl (by (try simp only [List.map_toArray, List.map_cons, List.map_nil]); first | done | rfl | (simp only [List.length_drop, List.length_take]; rfl)) ?_
                     with_reducible refine (pochoirref40_p16.calls k1 ((rd_T41 l0 aj).f1) aq _ A43.out).mono ?_
                     rintro e cb ⟨rfl, hb⟩
                     refine ⟨_, rfl, ?_⟩
                     have am := Aside0.mk (below_step (by exact lB HB.out) hb)
                     clear HB
                     have HB := am
                     clear am
                     (try clear hb)
                     (try clear aD)
                     (try clear hk)
                     (try clear hi)
                     refine hK.out _ _ ⟨((HB.out.cell (World.block_lt_of_cell? w _ aw)).trans aw), ((HB.out.cell (World.block_lt_of_cell? w _ av)).trans av), ((HB.out.cell (World.block_lt_of_cell? w _ au)).trans au), ((HB.out.cell (World.block_lt_of_cell? w _ az)).trans az), ((HB.out.cell (World.block_lt_of_cell? w _ ay)).trans ay), ((HB.out.cell (World.block_lt_of_cell? w _ ax)).trans ax), ((HB.out.cell (World.block_lt_of_cell? w _ aC)).trans aC), ((HB.out.cell (World.block_lt_of_cell? w _ aB)).trans aB), ((HB.out.cell (World.block_lt_of_cell? w _ aA)).trans aA)⟩ (fun hHeld => ?_)
                     clear hK K
                     refine norm_ (a' := ?_) ?_ ?_
                     rotate_left
                     ·show Act.put _ (some 63) _ = _
                      exact pA
                     refine pure_ (i := 14) (N := some 64) (v := ?_) (a' := ?_) #[true, true, true, true, true, true, true, true, true, true, true, true, true, true, true, true, true, true, true, true, false, false, false] rfl rfl (any_of HT_.out (by kernel_rfl)) (fun _ _ _ h => h) (Or.inl ⟨by rfl, ?_⟩) ?_ ?_
                     rotate_left
                     ·intro w'
                      go_simp
                      with_reducible rfl
                     rotate_left
                     ·exact pA
                     refine one_ (i := 20) (N := some 70) #[true, true, true, true, true, true, true, true, true, true, true, true, true, true, true, true, true, true, true, true, true, false, false] rfl rfl (one_of HT_.out (by kernel_rfl)) (by decide) (fun K hK => ?_)
                     refine goes_ Try.func24 (by kernel_rfl) rfl #[.int .i64 ((rd_T41 l0 aj).f2)] (by rfl) rfl rfl (by (try simp only [List.map_toArray, List.map_cons, List.map_nil]); first | done | rfl | (simp only [List.length_drop, List.length_take]; rfl)) ?_
                     with_reducible refine (pochoirref40_p16.calls k1 ((rd_T41 l0 aj).f2) ar _ A45.out).mono ?_
                     rintro e cc ⟨rfl, hb⟩
                     refine ⟨_, rfl, ?_⟩
                     have am := Aside0.mk (below_step (by exact lB HB.out) hb)
                     clear HB
                     have HB := am
                     clear am
                     (try clear hb)
                     (try clear aD)
                     (try clear hk)
                     (try clear hi)
                     refine hK.out _ _ ⟨((HB.out.cell (World.block_lt_of_cell? w _ aw)).trans aw), ((HB.out.cell (World.block_lt_of_cell? w _ av)).trans av), ((HB.out.cell (World.block_lt_of_cell? w _ au)).trans au), ((HB.out.cell (World.block_lt_of_cell? w _ az)).trans az), ((HB.out.cell (World.block_lt_of_cell? w _ ay)).trans ay), ((HB.out.cell (World.block_lt_of_cell? w _ ax)).trans ax), ((HB.out.cell (World.block_lt_of_cell? w _ aC)).trans aC), ((HB.out.cell (World.block_lt_of_cell? w _ aB)).trans aB), ((HB.out.cell (World.block_lt_of_cell? w _ aA)).trans aA)⟩ (fun hHeld => ?_)
                     clear hK K
                     refine norm_ (a' := ?_) ?_ ?_
                     rotate_left
                     ·show Act.put _ (some 70) _ = _
                      exact pA
                     refine pure_ (i := 21) (N := some 71) (v := ?_) (a' := ?_) #[true, true, true, true, true, true, true, true, true, true, true, true, true, true, true, true, true, true, true, true, true, true, false] rfl rfl (any_of HT_.out (by kernel_rfl)) (fun _ _ _ h => h) (Or.inl ⟨by rfl, ?_⟩) ?_ ?_
                     rotate_left
                     ·intro w'
                      go_simp
                      with_reducible rfl
                     rotate_left
                     ·exact pA
                     refine pure_ (i := 22) (N := some 6) (v := ?_) (a' := ?_) #[true, true, true, true, true, true, true, true, true, true, true, true, true, true, true, true, true, true, true, true, true, true, true] rfl rfl (any_of HT_.out (by kernel_rfl)) (fun _ _ _ h => h) (Or.inl ⟨by rfl, ?_⟩) ?_ ?_
                     rotate_left
                     ·intro w'
                      go_simp
                      with_reducible rfl
                     rotate_left
                     ·exact pA
                     refine done_ (done_of HT_.out (by kernel_rfl)) ?_
                     try go_wp2
                     go_roundg k1
                     case measure => have := HK1.out; omega
                     case rel => exact ⟨(((ap ++ an) ++ aq) ++ ar), (wrap64 (aj + 1)), (by first | rfl | (simp; done) | (simp [*]; done)), (by first | rfl | (simp; done) | (simp [*]; done)), H', ⟨by have := HK1.out; omega⟩, ⟨by exact lB HB.out⟩⟩
                    ·rw [if_neg c46] at H
                     exact absurd H (by simp)
                   ·rw [if_neg c44] at H
                    exact absurd H (by simp)
                  ·rw [if_neg c42] at H
                   exact absurd H (by simp)
                 ·rw [if_neg c40] at H
                  exact absurd H (by simp)
                ·rw [if_neg c39] at H
                 exact absurd H (by simp)
               ·rw [if_neg c38] at H
                have bs : decide (aj < (l0.length : Int)) = false := decide_eq_false c38
                clear c38
                simp only [Option.some.injEq, Prod.mk.injEq] at H
                obtain ⟨rfl, rfl⟩ := H
                go_wp2
                go_ret2
                exact ⟨by first | rfl | (simp [errW_none, errW_some] <;> rfl) | (simp [*, errW_none, errW_some] <;> rfl), by exact lB HB.out⟩
            ·rw [if_neg c24] at H
             exact absurd H (by simp)
           ·rw [if_neg c22] at H
            exact absurd H (by simp)
          ·rw [if_neg c21] at H
           exact absurd H (by simp)
         ·rw [if_neg c19] at H
          exact absurd H (by simp)
        ·rw [if_neg c18] at H
         exact absurd H (by simp)
       ·rw [if_neg c16] at H
        exact absurd H (by simp)
      ·rw [if_neg c15] at H
       exact absurd H (by simp)
     ·rw [if_neg c13] at H
      exact absurd H (by simp)
    ·rw [if_neg c11] at H
     exact absurd H (by simp)
   ·rw [if_neg c9] at H
    exact absurd H (by simp)
  ·rw [if_neg c7] at H
   exact absurd H (by simp)
 ·replace c3 := Bool.eq_false_iff.mpr c3
  subst c3
  have H1 : (some ((⟨#[]⟩ : ByteArray), 1)) = some (r1, r2) := by rw [if_neg (show ¬ (false = true) by decide)] at H; exact H
  clear H
  have H := H1
  clear H1
  simp only [Option.some.injEq, Prod.mk.injEq] at H
  obtain ⟨rfl, rfl⟩ := H
  go_enter Try.func8, Try.ntmps8
  go_wp2_with (first | ((with_reducible refine gate_callee (f := 10) rfl ?_); refine goesL_ (some 9) rfl rfl Try.func10 (by kernel_rfl) rfl #[.slice A0 l0.length c0, .int .i64 1024] rfl (by (try simp only [List.map_toArray, List.map_cons, List.map_nil]); first | done | rfl | (simp only [List.length_drop, List.length_take]; rfl)) ?_; (with_reducible refine (pochoirref40_May.calls k _ _ l0 1024 false _ ?side1 ?side2 A2.out).mono ?_); (case side1 => repeat (first | exact HR0.out | (with_reducible refine Kd.C_alloc ?_ _) | (with_reducible refine Kd.C_drewN ?_ _) | (with_reducible refine Kd.C_drew ?_))); (case side2 => exact bB.out); rintro e cd ⟨rfl, hb⟩; refine ⟨_, rfl, ?_⟩; have am := Aside0.mk (below_step (by exact lB HB.out) hb); clear HB; have HB := am; clear am; (try clear hb); (try clear aD); (try clear hk); (try clear hi)))
  go_ret2
  exact ⟨by first | rfl | (simp [errW_none, errW_some] <;> rfl) | (simp [*, errW_none, errW_some] <;> rfl), by exact lB HB.out⟩

end Go.Proofs.Ythnojbbfmcapnaa.Pr
