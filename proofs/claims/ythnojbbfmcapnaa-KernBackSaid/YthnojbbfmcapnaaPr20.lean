-- printed by a program of this session's (wip/mp.sh), out of the translation; the texts of its folder 'given' are typed by hand
-- shortened (wip/short.py)
import Derived.Test.YthnojbbfmcapnaaPr0
import Derived.Test.YthnojbbfmcapnaaMapIs
import Derived.WalkSpells
namespace Go.Proofs.Ythnojbbfmcapnaa.Pr
open Go.RowKit Go.Proofs.YthnojbbfmcapnaaW.PrintWords Go.Proofs.YthnojbbfmcapnaaW.PrintLast Go.Proofs.YthnojbbfmcapnaaW.PrintMore
attribute [local go_sem] max2_int min2_int max_two min_two max_three min_three max_four min_four   -- for this text's walks alone
set_option linter.unusedVariables false
set_option linter.unusedSimpArgs false

/-! ### kern_Shift: function 17 -/
def kern_Shift.ok (n : Int) : Bool := decide (-9223372036854775808 ≤ n ∧ n ≤ 9223372036854775807)
/-- What a pair is moved by. -/
def kern_Shift.by_ : List (S41) → Int → Int → Option Int
 | [], _, _ => none
 | x :: l, a, b => if x.f0 = a ∧ x.f1 = b then some x.f2 else kern_Shift.by_ l a b
def kern_Shift.l0 : Nat → List (S41) → List (S43) → List (S43) → Int → Int → Option (List (S43))
 | 0, _, _, _, _, _ => none
 | k + 1, l, p, out, moved, i => if i < (p.length : Int) then (if 0 ≤ i then (if (i > 0 ∧ (rd_T43 p (wrap64 (i - 1))).f2 = (rd_T43 p i).f2)
   then (if 0 ≤ wrap64 (i - 1) ∧ wrap64 (i - 1) < (p.length : Int) ∧ kern_Shift.ok (rd_T43 p (wrap64 (i - 1))).f0 = true ∧ kern_Shift.ok (rd_T43 p i).f0 = true then kern_Shift.l0 k l p (out.set i.toNat ⟨(rd_T43 out i).f0, wrap64 ((rd_T43 out i).f1 + (wrap64 (moved + (kern_Shift.by_ l (rd_T43 p (wrap64 (i - 1))).f0 (rd_T43 p i).f0).getD 0))), (rd_T43 out i).f2⟩) (wrap64 (moved + (kern_Shift.by_ l (rd_T43 p (wrap64 (i - 1))).f0 (rd_T43 p i).f0).getD 0)) (wrap64 (i + 1)) else none)
   else (if i > 0 → 0 ≤ wrap64 (i - 1) ∧ wrap64 (i - 1) < (p.length : Int) then kern_Shift.l0 k l p (out.set i.toNat ⟨(rd_T43 out i).f0, wrap64 ((rd_T43 out i).f1 + 0), (rd_T43 out i).f2⟩) 0 (wrap64 (i + 1)) else none)) else none) else some out
def kern_Shift.f (k : Nat) (l0 : List (S41)) (l1 : List (S43)) : Option (List (S43)) := if l0.length ≤ k ∧ l1.length * 24 ≤ 140737488355328 ∧ (l0.all fun x => kern_Shift.ok x.f0 && kern_Shift.ok x.f1) = true then kern_Shift.l0 k l0 l1 l1 0 0 else none
theorem kern_Shift.mono_l : ∀ (k : Nat) l p out m i, LeO (kern_Shift.l0 k l p out m i) (kern_Shift.l0 (k + 1) l p out m i)
 | 0, _, _, _, _, _ => fun r h => by simp [kern_Shift.l0] at h
 | k + 1, l, p, out, m, i => by
  unfold kern_Shift.l0
  repeat' first
   | exact kern_Shift.mono_l k _ _ _ _ _
   | exact LeO.refl _
   | refine LeO.ite ?_ ?_
theorem kern_Shift.mono : ∀ l p k, LeO (kern_Shift.f k l p) (kern_Shift.f (k + 1) l p) := by
 intro l p k r h
 unfold kern_Shift.f at h ⊢
 split at h
 ·rename_i hc
  rw [if_pos ⟨by omega, hc.2⟩]
  exact kern_Shift.mono_l _ _ _ _ _ _ _ h
 ·cases h
theorem kern_Shift.laidOut : laidOutB Try.prog = true := by kernel_rfl
theorem kern_Shift.law : Maps.Keyed Try.prog 76 := Maps.Keyed.of_law (deep_law_laid kern_Shift.laidOut (m := 2) (by omega) (of_decide_eq_true (by kernel_rfl)) (by kernel_rfl) (by rw [Try.underlying76]))
def kern_Shift.key (a b : Int) : Lit := .string (keyBytes [.int .i64 a, .int .i64 b])
theorem kern_Shift.keyOk {n : Int} (h : kern_Shift.ok n = true) : (Lit.int .i64 n).wf = true := by
 simp [kern_Shift.ok] at h
 simp [Lit.wf, IntKind.min, IntKind.max, IntKind.signed, IntKind.bits]
 omega
theorem kern_Shift.keyOf {a b : Int} (ha : kern_Shift.ok a = true) (hb : kern_Shift.ok b = true) : keyOf Try.prog 76 (.agg #[.int .i64 a, .int .i64 b]) = some (kern_Shift.key a b) := by
 have ha := kern_Shift.keyOk ha
 have hb := kern_Shift.keyOk hb
 have h1 : Try.prog.keyType 76 = true := by kernel_rfl
 have h2 : Try.prog.cellsOf 76 = 2 := by kernel_rfl
 have h3 : Try.prog.cellsOf 3 = 1 := by kernel_rfl
 have h4 : Try.prog.types.size = Try.prog.types.size - 1 + 1 := by kernel_rfl
 unfold Go.keyOf
 rw [Try.underlying76]
 simp only [h1, Value.formed, Try.underlying76, h2]
 obtain ⟨m, hm⟩ : ∃ m, Try.prog.types.size = m + 1 := ⟨_, h4⟩
 rw [hm]
 clear hm h4
 simp [Program.keyLits, Try.underlying76, Try.underlying3, h2, h3, Value.cells, ha, hb, kern_Shift.key]
theorem kern_Shift.keyInj {a b c d : Int} (ha : kern_Shift.ok a = true) (hb : kern_Shift.ok b = true) (hc : kern_Shift.ok c = true) (hd : kern_Shift.ok d = true) (h : kern_Shift.key a b = kern_Shift.key c d) : a = c ∧ b = d := by
 have h1 := kern_Shift.keyOf ha hb
 have h2 := kern_Shift.keyOf hc hd
 rw [h] at h1
 have := kern_Shift.law.inj h1 h2
 simpa using this
theorem kern_Shift.zero (w : World) : (zeroValue 3).run Try.prog w = .ok (.int .i64 0) w := by kernel_rfl
theorem kern_Shift.eqNil (w : World) (a : Option Addr) (n c : Nat) : (binOp .eql 39 (.slice a n c) (.slice none 0 0)).run Try.prog w = .ok (.bool a.isNone) w := Lib.run_eql_slice_nil w _ _ a n c 0 0 Try.underlying39
set_option maxHeartbeats 2000000 in
set_option maxRecDepth 100000 in
/-- slices.Clone. -/
theorem kern_Shift.clone (A : Option Addr) (c : Nat) (l : List (S43)) (w : World) (hC : Kd.C k43 w A l.length l) (hl : l.length * 24 ≤ 140737488355328) :
  Calls Try.prog 36 #[.slice A l.length c] w fun e w' => ∃ v, e = .returned v ∧ Kd.R k43 43 w' w.heap.size (fun _ => True) v l ∧ Below w.heap.size w w' := by
 rcases A with _ | ad
 ·have h0 : l = [] := by
   rcases l with _ | ⟨x, l⟩
   ·rfl
   ·obtain ⟨ad, h, _⟩ := hC.2.2 (by simp)
    cases h
  have HE := kern_Shift.eqNil w none l.length c
  simp only [Option.isNone_none] at HE
  have H0 := Aside0.mk h0
  clear hC hl h0
  go_enter Try.func36, Try.ntmps36
  go_wp2
  go_ret
  exact ⟨_, rfl, by rw [H0.out]; exact Kd.R_nil _ _ _ _ _, Below.refl _ _⟩
 ·have HE := kern_Shift.eqNil w (some ad) l.length c
  simp only [Option.isNone_some] at HE
  have HC := Aside0.mk hC
  have HL := Aside0.mk hl
  clear hC hl
  go_enter Try.func36, Try.ntmps36
  go_wp2_with (at_builtin; refine Kd.R_append_rows k43 (Rr := k43.K w) (w0 := w) w.heap.size rfl (.tmp 5) (.tmp 6) 39 43 (.agg #[(.int .i64 0), (.int .i64 0), (.int .i64 0)]) 24 rfl Try.underlying39 info43 rfl (by decide) (by omega) _ [] l (some ad) l.length c (fun _ => True) (fun _ => False) rfl rfl ?hO ?hR ?hM (fun _ h => h.elim) (fun _ _ => trivial) ?hB ?hS ?hL ?_)
  case hO => exact ⟨fun _ _ => trivial, [], World.ownsRow_made w #[] 0 (Nat.le_refl _) (Nat.zero_le _) (by simp), Reps.none _ _⟩
  case hR => exact Kd.C_below HC.out (below_alloc (Below.refl _ _) _)
  case hM =>
   intro x cs h
   obtain rfl := k43_open h
   exact k43_mkM _ _ _ x
  case hB => exact below_alloc (Below.refl _ _) _
  case hS => simp
  case hL => have := HL.out; simpa using this
  intro v1 w1 ho hb _ _
  have HO := Aside0.mk ho
  have HB := Aside0.mk hb
  clear ho hb
  go_wp2
  go_ret
  exact ⟨_, rfl, by simpa using HO.out, HB.out⟩
/-- What the map holds behind i pairs. -/
structure kern_Shift.Holds (l : List (S41)) (f : Lit → Option Value) : Prop where
 of : ∀ a b, kern_Shift.ok a = true → kern_Shift.ok b = true → f (kern_Shift.key a b) = (kern_Shift.by_ l a b).map (Value.int .i64)
theorem kern_Shift.by_snoc (l : List (S41)) (x : S41) (a b : Int) : kern_Shift.by_ (l ++ [x]) a b = (kern_Shift.by_ l a b).or (if x.f0 = a ∧ x.f1 = b then some x.f2 else none) := by
 induction l with
 | nil => simp [kern_Shift.by_]
 | cons y l ih =>
  simp only [List.cons_append, kern_Shift.by_]
  split
  ·rfl
  ·exact ih
theorem kern_Shift.take_snoc {l : List (S41)} {i : Int} (h0 : 0 ≤ i) (h1 : i < (l.length : Int)) : l.take (i + 1).toNat = l.take i.toNat ++ [rd_T41 l i] := by
 have e : (i + 1).toNat = i.toNat + 1 := by omega
 rw [e, List.take_succ_eq_append_getElem (by omega)]
 have : rd_T41 l i = l[i.toNat]'(by omega) := by unfold rd_T41; simp [List.getD, show i.toNat < l.length by omega]
 rw [this]
theorem kern_Shift.okAt {l : List (S41)} (h : (l.all fun x => kern_Shift.ok x.f0 && kern_Shift.ok x.f1) = true) {i : Int} (h0 : 0 ≤ i) (h1 : i < (l.length : Int)) : kern_Shift.ok (rd_T41 l i).f0 = true ∧ kern_Shift.ok (rd_T41 l i).f1 = true := by
 have e : rd_T41 l i = l[i.toNat]'(by omega) := by unfold rd_T41; simp [List.getD, show i.toNat < l.length by omega]
 rw [e]
 have := List.all_eq_true.1 h _ (List.getElem_mem (l := l) (n := i.toNat) (by omega))
 simpa using this
theorem kern_Shift.keep {l : List (S41)} {x : S41} {f : Lit → Option Value} {v : Int} (h : kern_Shift.Holds l f) (hb : kern_Shift.by_ l x.f0 x.f1 = some v) : kern_Shift.Holds (l ++ [x]) f := ⟨fun a b ha hb' => by
 rw [h.of a b ha hb', kern_Shift.by_snoc]
 by_cases e : x.f0 = a ∧ x.f1 = b
 ·obtain ⟨rfl, rfl⟩ := e
  rw [hb]
  rfl
 ·rw [if_neg e]
  simp⟩
open Classical in
theorem kern_Shift.add {l : List (S41)} {x : S41} {f : Lit → Option Value} (h : kern_Shift.Holds l f) (h0 : kern_Shift.ok x.f0 = true) (h1 : kern_Shift.ok x.f1 = true) (hb : kern_Shift.by_ l x.f0 x.f1 = none) :
  kern_Shift.Holds (l ++ [x]) (fun q => if q = kern_Shift.key x.f0 x.f1 then some (.int .i64 x.f2) else f q) := ⟨fun a b ha hb' => by
 show (if _ then _ else _) = _
 rw [kern_Shift.by_snoc]
 by_cases e : x.f0 = a ∧ x.f1 = b
 ·obtain ⟨rfl, rfl⟩ := e
  rw [hb, if_pos rfl, if_pos ⟨rfl, rfl⟩]
  rfl
 ·rw [if_neg e, if_neg, h.of a b ha hb']
  ·simp
  ·intro he
   obtain ⟨e1, e2⟩ := kern_Shift.keyInj ha hb' h0 h1 he
   exact e ⟨e1.symm, e2.symm⟩⟩
theorem kern_Shift.wrap_up {i : Int} {n : Nat} (h0 : 0 ≤ i) (h : i < (n : Int)) (hn : n ≤ 9223372036854775807) : wrap64 (i + 1) = i + 1 := by unfold wrap64; omega
theorem kern_Shift.head_ {w : World} {base : Nat} {v : Value} {xs : List S43} {ok : Nat → Prop} (h : Kd.R k43 43 w base ok v xs) (h0 : 0 < xs.length) : ∃ g cap, v = .slice (some ⟨g, 0, none⟩) xs.length cap := by
 obtain ⟨_, inner, ho, _⟩ := h
 rcases ho.2 with ⟨rfl, hn⟩ | ⟨g, cap, cur, rfl, _⟩
 ·omega
 ·exact ⟨g, cap, rfl⟩
set_option maxHeartbeats 4000000 in
set_option maxRecDepth 100000 in
theorem kern_Shift.calls (k : Nat) (A0 : Option Addr) (c0 : Nat) (l0 : List (S41)) (A1 : Option Addr) (c1 : Nat) (l1 : List (S43)) (r : List (S43)) (w : World) (ab : Kd.C k41 w A0 l0.length l0) (ai : l0.length ≤ c0) (ac : Kd.C k43 w A1 l1.length l1) (aj : l1.length ≤ c1) (h : kern_Shift.f k l0 l1 = some r) :
  Calls Try.prog 17 #[.slice A0 l0.length c0, .slice A1 l1.length c1] w fun e w' => ∃ v0_ : Value, e = .returned (v0_) ∧ Kd.R k43 43 w' w.heap.size (fun _ => True) v0_ r ∧ Below w.heap.size w w' := by
 unfold kern_Shift.f at h
 by_cases hc : l0.length ≤ k ∧ l1.length * 24 ≤ 140737488355328 ∧ (l0.all fun x => kern_Shift.ok x.f0 && kern_Shift.ok x.f1) = true
 rotate_left
 ·rw [if_neg hc] at h
  cases h
 rw [if_pos hc] at h
 obtain ⟨hk, ae, hall⟩ := hc
 have af : l0.length ≤ 9223372036854775807 := ab.2.1
 have H' := Aside0.mk h
 have ak := Aside0.mk ab
 have ag := Aside0.mk ac
 have HK := Aside0.mk hk
 have HL0 := Aside0.mk af
 have HL1 := Aside0.mk ae
 have HA := Aside0.mk hall
 clear h ab ac hk af ae hall ai aj
 have hmm := @run_makeMap Try.prog
 go_enter Try.func17, Try.ntmps17
 go_wp2
 go_loopg [16] l0.length (fun kq v16 w' => ∃ (i : Int) (f : Lit → Option Value) (n s : Nat), v16 = .int .i64 i ∧ Aside0 (0 ≤ i ∧ i ≤ (l0.length : Int) ∧ (l0.length : Int) - i ≤ kq) ∧ Aside0 (MapIs.MapIs Try.prog 76 w' w.heap.size n s f ∧ (n : Int) ≤ i) ∧ Aside0 (kern_Shift.Holds (l0.take i.toNat) f) ∧ Aside0 (Below w.heap.size w w'))
 case atStart => exact ⟨0, _, 0, 0, rfl, ⟨by omega⟩, ⟨MapIs.made w Try.prog 76, by simp⟩, ⟨⟨fun a b _ _ => rfl⟩⟩, ⟨below_alloc (Below.refl _ _) _⟩⟩
 case round =>
  obtain ⟨i, f, n, s, rfl, HI, HM, HH, HB⟩ := hrel
  by_cases q1 : i < (l0.length : Int)
  ·obtain ⟨ad, e, x0, x1, x2⟩ := at_T41 (Kd.C_below ak.out HB.out) i HI.out.1 q1
   cases e
   have HO := Aside0.mk (kern_Shift.okAt HA.out HI.out.1 q1)
   have HT := Aside0.mk (kern_Shift.take_snoc HI.out.1 q1)
   have HW := Aside0.mk (kern_Shift.wrap_up HI.out.1 q1 HL0.out)
   have q0 := eq_true HI.out.1
   have q1b := decide_eq_true q1
   replace q1 := eq_true q1
   have hN : n < maxLen := by have := HI.out; have := HM.out.2; have := HL0.out; have := of_eq_true q1; unfold maxLen; omega
   have HN := Aside0.mk hN
   clear hN
   have HK2 := Aside0.mk (HH.out.of _ _ HO.out.1 HO.out.2)
   cases hb : kern_Shift.by_ (l0.take i.toNat) (rd_T41 l0 i).f0 (rd_T41 l0 i).f1 with
   | some v =>
    rw [hb] at HK2
    have HV := Aside0.mk hb
    clear hb
    go_wp2_with (at_lookup; refine MapIs.wp_look_ok (.tmp 21) (.tmp 26) rfl rfl kern_Shift.law Try.underlying73 (kern_Shift.zero _) (HM.out.1.alloc _) rfl rfl (kern_Shift.keyOf HO.out.1 HO.out.2) (.int .i64 v) true (by rw [HK2.out]; rfl) (by rw [HK2.out]; rfl) ?_)
    go_roundg (l0.length - (i.toNat + 1))
    case measure => have := HI.out; have := of_eq_true q1; omega
    case rel => exact ⟨_, f, n, s, rfl, ⟨by have := HI.out; have := of_eq_true q1; rw [HW.out]; omega⟩, ⟨HM.out.1.alloc _, by have := HM.out.2; rw [HW.out]; omega⟩, ⟨by rw [HW.out, HT.out]; exact kern_Shift.keep HH.out HV.out⟩, ⟨below_alloc HB.out _⟩⟩
   | none =>
    rw [hb] at HK2
    have HV := Aside0.mk hb
    clear hb
    go_wp2_with (first | (at_lookup; refine MapIs.wp_look_ok (.tmp 21) (.tmp 26) rfl rfl kern_Shift.law Try.underlying73 (kern_Shift.zero _) (HM.out.1.alloc _) rfl rfl (kern_Shift.keyOf HO.out.1 HO.out.2) (.int .i64 0) false (by rw [HK2.out]; rfl) (by rw [HK2.out]; rfl) ?_) | (at_mapUpdate; refine MapIs.wp_store (.tmp 32) (.tmp 37) (.tmp 39) rfl rfl kern_Shift.law Try.underlying73 (HM.out.1.alloc _) HN.out rfl rfl rfl (kern_Shift.keyOf HO.out.1 HO.out.2) ?_; intro w1 hm ht; have HM1 := Aside0.mk hm; have HB1 := Aside0.mk ((below_alloc HB.out _).grown ht.grown (below_alloc HB.out _).size (by intro k hk; cases hk; exact Nat.le_refl _)); clear hm ht))
    go_roundg (l0.length - (i.toNat + 1))
    case measure => have := HI.out; have := of_eq_true q1; omega
    case rel => exact ⟨_, _, n + 1, _, rfl, ⟨by have := HI.out; have := of_eq_true q1; rw [HW.out]; omega⟩, ⟨HM1.out, by have := HM.out.2; rw [HW.out]; omega⟩, ⟨by rw [HW.out, HT.out]; exact kern_Shift.add HH.out HO.out.1 HO.out.2 HV.out⟩, ⟨HB1.out⟩⟩
  ·have hi : i = (l0.length : Int) := by have := HI.out; omega
   have q1b := decide_eq_false q1
   have HH2 : Aside0 (kern_Shift.Holds l0 f) := ⟨by have := HH.out; rwa [List.take_of_length_le (by omega)] at this⟩
   have HM2 := Aside0.mk HM.out.1
   clear hi HI HM HH q1
   go_wp2_with (go_at_call 36; refine (kern_Shift.clone A1 c1 l1 _ (Kd.C_below ag.out HB.out) HL1.out).mono ?_; rintro e w1 ⟨v, rfl, ho, hb⟩; obtain ⟨Ao, co, hv, _, _⟩ := Kd.R_reads ho; subst hv; have HO := Aside0.mk ho; have HB1 := Aside0.mk (below_step HB.out hb); have HM3 := Aside0.mk (HM2.out.below hb HM2.out.lt); have ah := Aside0.mk (Kd.R_lower HO.out (show w.heap.size + 1 ≤ _ from HM2.out.lt)); clear ho hb HO)
   clear HB HM2
   go_loopg [11, 45] k (fun kq v11 v45 w' => ∃ (moved i : Int) (out : List S43), v11 = .int .i64 moved ∧ v45 = .int .i64 i ∧ Aside0 (kern_Shift.l0 kq l0 l1 out moved i = some r) ∧ Aside0 (kq ≤ k) ∧ Aside0 (MapIs.MapIs Try.prog 76 w' w.heap.size n s f) ∧ Aside0 (Kd.R k43 43 w' (w.heap.size + 1) (fun _ => True) (.slice Ao l1.length co) out ∧ out.length = l1.length) ∧ Aside0 (Below w.heap.size w w'))
   case atStart => exact ⟨0, 0, l1, rfl, rfl, H', ⟨Nat.le_refl _⟩, HM3, ⟨ah.out, rfl⟩, HB1⟩
   case round =>
    clear H' HB1 HM3 ah q1b
    obtain ⟨moved, i, out, rfl, rfl, H, HK2, HM, HO, HB⟩ := hrel
    cases gk with
    | zero => exact absurd H.out (by simp [kern_Shift.l0])
    | succ k1 =>
    replace H := H.out
    unfold kern_Shift.l0 at H
    by_cases q1 : i < (l1.length : Int)
    ·rw [if_pos q1] at H
     by_cases q2 : 0 ≤ i
     ·rw [if_pos q2] at H
      have hC := Kd.C_below ag.out HB.out
      obtain ⟨ad, e, x0, x1, x2⟩ := at_T43 hC i q2 q1
      cases e
      obtain ⟨g, cap, hv⟩ := kern_Shift.head_ HO.out.1 (by have := HO.out.2; omega)
      obtain ⟨rfl, rfl⟩ : Ao = some ⟨g, 0, none⟩ ∧ co = cap := by
       injection hv with h1 _ h3
       exact ⟨h1, h3⟩
      clear hv
      obtain ⟨A2, c2, hv, _, hD⟩ := Kd.R_reads HO.out.1
      obtain rfl : A2 = some ⟨g, 0, none⟩ := by
       injection hv with h1 _ _
       exact h1.symm
      obtain ⟨ad2, e, y0, y1, y2⟩ := at_T43 hD i q2 (by have := HO.out.2; omega)
      obtain rfl : (⟨g, 0, none⟩ : Addr) = ad2 := by injection e
      clear hv e
      simp only [Addr.add_lit, Nat.zero_add] at y0 y1 y2
      have HG := Aside0.mk (show w.heap.size + 1 ≤ g from Kd.R_base HO.out.1 g (by simp [Value.ownBlock]))
      have HW := Aside0.mk (kern_Shift.wrap_up q2 q1 (by have := HL1.out; omega))
      have HC := Aside0.mk hC
      clear hC hD
      have store_ : ∀ {P : Program} {ops : Array Oper} {rest : List Oper} {o : Oper} {a : Act} {Q : Exit → Act → World → Prop} (m : Nat) (p x : Tmp) (o' : Nat) (u : Int) (hP : (P.info? 3).map (·.size) = some 1) (hN : o.dst = none) (hgd : o.guard = none) (ho : o.op = .store 3 (.tmp p) (.tmp x))
        (haddr : a.eval (.tmp p) = .pointer (some ⟨g, o', none⟩)) (hoff : o' = i.toNat * 3 + 1) (hx : a.eval (.tmp x) = .int .i64 u)
        (h : ∀ W, MapIs.MapIs Try.prog 76 W w.heap.size n s f → Kd.R k43 43 W (w.heap.size + 1) (fun _ => True) (.slice (some ⟨g, 0, none⟩) l1.length co) (out.set i.toNat ⟨(rd_T43 out i).f0, u, (rd_T43 out i).f2⟩) → Below w.heap.size w W → wpList P ops Q rest a W), wpList P ops Q (o :: rest) a (wr.drewN m) := by
       intro P ops rest o a Q m p x o' u hP hN hgd ho haddr hoff hx h
       refine Kd.R_store k43 (w0 := wr.drewN m) (w.heap.size + 1) hN hgd 3 (.tmp p) (.tmp x) ho 43 i 1 out ⟨(rd_T43 out i).f0, u, (rd_T43 out i).f2⟩ (.int .i64 u) [.int .i64 u] [.int .i64 (rd_T43 out i).f0, .int .i64 (rd_T43 out i).f1, .int .i64 (rd_T43 out i).f2] (fun _ => True) (fun _ => False) haddr hoff hx rfl hP (by intro q hq; rw [List.mem_singleton.1 hq]; rfl) (Kd.R_drewN HO.out.1 _) q2 q1 rfl ?_ (Nat.le_of_ble_eq_true rfl) ?_ (fun _ hk => hk.elim) (Below.refl _ _) ?_
       ·intro j u hu
        match j, hu with
        | 0, hu => simp at hu; subst hu; exact y0
        | 1, hu => simp at hu; subst hu; exact y1
        | 2, hu => simp at hu; subst hu; exact y2
        | j + 3, hu => simp at hu
       ·exact k43_mkM _ _ _ ⟨(rd_T43 out i).f0, u, (rd_T43 out i).f2⟩
       ·intro w2 hr _ hg
        exact h w2 ((HM.out.move (w' := wr.drewN m) rfl).kept hg (by have := HG.out; intro e; injection e; omega)) hr ((pw_below_drewN HB.out m).grown hg HB.out.size (by intro k hk; cases hk; have := HG.out; omega))
      have ST := Aside0.mk @store_
      clear store_
      have q1b := decide_eq_true q1
      by_cases q3 : i > 0
      ·have q3b : decide (0 < i) = true := decide_eq_true q3
       obtain ⟨j, hj⟩ : ∃ j, wrap64 (i - 1) = j := ⟨_, rfl⟩
       have hjw : IntKind.i64.wrap (i - 1) = j := (i64_w _).trans hj
       have aa : 0 ≤ j ∧ j < (l1.length : Int) := by
        rw [← hj]
        have := HL1.out
        unfold wrap64
        omega
       rw [hj] at H
       clear hj
       have HJ := Aside0.mk hjw
       clear hjw
       obtain ⟨ad3, e, z0, z1, z2⟩ := at_T43 HC.out j aa.1 aa.2
       obtain rfl : ad = ad3 := by injection e
       clear e
       have w1 := eq_true aa.1
       have w2 := eq_true aa.2
       clear aa
       replace q1 := eq_true q1
       replace q2 := eq_true q2
       by_cases q4 : (rd_T43 l1 j).f2 = (rd_T43 l1 i).f2
       ·rw [if_pos ⟨q3, q4⟩] at H
        by_cases q5 : 0 ≤ j ∧ j < (l1.length : Int) ∧ kern_Shift.ok (rd_T43 l1 j).f0 = true ∧ kern_Shift.ok (rd_T43 l1 i).f0 = true
        rotate_left
        ·rw [if_neg q5] at H
         cases H
        rw [if_pos q5] at H
        have HQ := Aside0.mk q5.2.2
        have q4b : ((rd_T43 l1 j).f2 == (rd_T43 l1 i).f2) = true := beq_iff_eq.mpr q4
        clear q5 q4 q3
        have H' := Aside0.mk H
        clear H
        have hlook : ∀ m, (Instr.lookup 73 (.map (some w.heap.size)) (.agg #[.int .i64 (rd_T43 l1 j).f0, .int .i64 (rd_T43 l1 i).f0]) false).run Try.prog (wr.drewN m) = .ok (.int .i64 ((kern_Shift.by_ l0 (rd_T43 l1 j).f0 (rd_T43 l1 i).f0).getD 0)) (wr.drewN m) := fun m => by
         rw [((HM.out.move (w' := wr.drewN m) rfl)).look kern_Shift.law Try.underlying73 (kern_Shift.zero _) (kern_Shift.keyOf HQ.out.1 HQ.out.2), HH2.out.of _ _ HQ.out.1 HQ.out.2]
         cases kern_Shift.by_ l0 (rd_T43 l1 j).f0 (rd_T43 l1 i).f0 <;> rfl
        generalize (kern_Shift.by_ l0 (rd_T43 l1 j).f0 (rd_T43 l1 i).f0).getD 0 = v at H' hlook
        have hJ := HJ.out
        go_wp2
        go_quiet (fail)
        go_wp2
        go_quiet (fail)
        go_wp2_with (refine ST.out _ 88 86 _ _ (by kernel_rfl) rfl rfl rfl rfl rfl rfl ?_; intro w2 hm hr hb; have HM2 := Aside0.mk hm; have HR2 := Aside0.mk hr; have HB2 := Aside0.mk hb; clear hm hr hb)
        go_roundg k1
        case measure => omega
        case rel => exact ⟨_, _, _, rfl, rfl, H', ⟨by have := HK2.out; omega⟩, HM2, ⟨HR2.out, by rw [List.length_set]; exact HO.out.2⟩, HB2⟩
       ·rw [if_neg (fun h => q4 h.2), if_pos (fun _ => ⟨of_eq_true w1, of_eq_true w2⟩)] at H
        simp only [Int.add_zero] at H
        have q4b : ((rd_T43 l1 j).f2 == (rd_T43 l1 i).f2) = false := beq_eq_false_iff_ne.mpr q4
        clear q4 q3
        have H' := Aside0.mk H
        clear H
        have hJ := HJ.out
        go_wp2
        go_quiet (fail)
        go_wp2_with (refine ST.out _ 88 86 _ _ (by kernel_rfl) rfl rfl rfl rfl rfl rfl ?_; intro w2 hm hr hb; have HM2 := Aside0.mk hm; have HR2 := Aside0.mk hr; have HB2 := Aside0.mk hb; clear hm hr hb)
        go_roundg k1
        case measure => omega
        case rel => exact ⟨_, _, _, rfl, rfl, H', ⟨by have := HK2.out; omega⟩, HM2, ⟨HR2.out, by rw [List.length_set]; exact HO.out.2⟩, HB2⟩
      ·rw [if_neg (fun h => q3 h.1), if_pos (fun h => absurd h q3)] at H
       simp only [Int.add_zero] at H
       have H' := Aside0.mk H
       have q3b : decide (0 < i) = false := decide_eq_false q3
       replace q1 := eq_true q1
       replace q2 := eq_true q2
       clear H
       clear q3
       go_wp2
       go_quiet (fail)
       go_wp2_with (refine ST.out _ 88 86 _ _ (by kernel_rfl) rfl rfl rfl rfl rfl rfl ?_; intro w2 hm hr hb; have HM2 := Aside0.mk hm; have HR2 := Aside0.mk hr; have HB2 := Aside0.mk hb; clear hm hr hb)
       go_roundg k1
       case measure => omega
       case rel => exact ⟨_, _, _, rfl, rfl, H', ⟨by have := HK2.out; omega⟩, HM2, ⟨HR2.out, by rw [List.length_set]; exact HO.out.2⟩, HB2⟩
     ·rw [if_neg q2] at H
      cases H
    ·rw [if_neg q1] at H
     obtain rfl := Option.some.inj H
     have q1b := decide_eq_false q1
     clear H q1
     go_wp2
     go_ret
     exact ⟨_, rfl, Kd.R_lower HO.out.1 (by omega), HB.out⟩

end Go.Proofs.Ythnojbbfmcapnaa.Pr
