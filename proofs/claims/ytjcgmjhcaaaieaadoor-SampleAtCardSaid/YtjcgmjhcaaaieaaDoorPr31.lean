-- printed by a program of this session's (wip/mp.sh), out of the translation; the texts of its folder 'given' are typed by hand
-- shortened (wip/short.py)
import Derived.Test.YtjcgmjhcaaaieaaDoorPr0
import Derived.Test.YtjcgmjhcaaaieaaDoorPr1
namespace Go.Proofs.YtjcgmjhcaaaieaaDoor.Pr
open Go.RowKit Go.Proofs.YtjcgmjhcaaaieaaDoorW.PrintWords Go.Proofs.YtjcgmjhcaaaieaaDoorW.PrintLast Go.Proofs.YtjcgmjhcaaaieaaDoorW.PrintMore
attribute [local go_sem] max2_int min2_int max_two min_two max_three min_three max_four min_four   -- for this text's walks alone
attribute [local go_sem high] eqA32
set_option linter.unusedVariables false
set_option linter.unusedSimpArgs false

attribute [local go_sem high] eqA50
/-! ### pochoirref30_in: function 25 -/
def pochoirref30_in.f (a0 : Int) (a1 : Int) (a2 : Int) : Option (Bool) := if a0 ≥ a1 then (some (decide (a0 ≤ a2))) else (some false)
set_option maxHeartbeats 8000000 in
set_option maxRecDepth 100000 in
theorem pochoirref30_in.calls (a0 : Int) (a1 : Int) (a2 : Int) (r : Bool) (w : World) (h : pochoirref30_in.f a0 a1 a2 = some r) :
  Calls Tryd.prog 25 #[.int .i64 a0, .int .i64 a1, .int .i64 a2] w fun e w' => e = .returned (.bool r) ∧ Drawn0 w w' := by
 have H : (if a0 ≥ a1 then (some (decide (a0 ≤ a2))) else (some false)) = some r := h
 clear h
 by_cases c4 : a0 ≥ a1
 ·rw [if_pos c4] at H
  have aa : decide (a1 ≤ a0) = true := decide_eq_true c4
  clear c4
  obtain rfl := Option.some.inj H
  go_enter Tryd.func25, Tryd.ntmps25
  go_wp2
  go_ret
  exact ⟨by first | rfl | (simp; done) | (simp [*]; done), by repeat (first | exact Drawn0.refl _ | apply Drawn0.step)⟩
 ·rw [if_neg c4] at H
  have aa : decide (a1 ≤ a0) = false := decide_eq_false c4
  clear c4
  obtain rfl := Option.some.inj H
  go_enter Tryd.func25, Tryd.ntmps25
  go_wp2
  go_ret
  exact ⟨by first | rfl | (simp; done) | (simp [*]; done), by repeat (first | exact Drawn0.refl _ | apply Drawn0.step)⟩

/-! ### pochoirref30_short: function 26 -/
def pochoirref30_short.f (a0 : Int) : Option (Bool) := if a0 ≥ (-32768) then (some (decide (a0 ≤ 32767))) else (some false)
set_option maxHeartbeats 8000000 in
set_option maxRecDepth 100000 in
theorem pochoirref30_short.calls (a0 : Int) (r : Bool) (w : World) (h : pochoirref30_short.f a0 = some r) :
  Calls Tryd.prog 26 #[.int .i64 a0] w fun e w' => e = .returned (.bool r) ∧ Drawn0 w w' := by
 have H : (if a0 ≥ (-32768) then (some (decide (a0 ≤ 32767))) else (some false)) = some r := h
 clear h
 by_cases c2 : a0 ≥ (-32768)
 ·rw [if_pos c2] at H
  have aa : decide ((-32768) ≤ a0) = true := decide_eq_true c2
  clear c2
  obtain rfl := Option.some.inj H
  go_enter Tryd.func26, Tryd.ntmps26
  go_wp2
  go_ret
  exact ⟨by first | rfl | (simp; done) | (simp [*]; done), by repeat (first | exact Drawn0.refl _ | apply Drawn0.step)⟩
 ·rw [if_neg c2] at H
  have aa : decide ((-32768) ≤ a0) = false := decide_eq_false c2
  clear c2
  obtain rfl := Option.some.inj H
  go_enter Tryd.func26, Tryd.ntmps26
  go_wp2
  go_ret
  exact ⟨by first | rfl | (simp; done) | (simp [*]; done), by repeat (first | exact Drawn0.refl _ | apply Drawn0.step)⟩

/-! ### pochoirref25_May: function 38 -/
def pochoirref25_May.f (ac : Int) (af : Int) (ad : Int) (ae : Int) : Option (Bool) := if (ac == 0 && (af == 0 && (ad == 0 && (ae == 0)))) = true then (some true) else (if ad ≥ 1 then (if ad ≤ 256 then (if ae ≥ 1 then (if ae ≤ 256 then (if ac ≥ (-1048576) then (if ac ≤ 1048576 then (if af ≥ (-1048576) then (some (decide (af ≤ 1048576))) else (some false)) else (some false)) else (some false)) else (some false)) else (some false)) else (some false)) else (some false))
set_option maxHeartbeats 8000000 in
set_option maxRecDepth 100000 in
theorem pochoirref25_May.calls (ac : Int) (af : Int) (ad : Int) (ae : Int) (r : Bool) (w : World) (h : pochoirref25_May.f ac af ad ae = some r) :
  Calls Tryd.prog 38 #[.agg #[.int .i64 ac, .int .i64 af, .int .i64 ad, .int .i64 ae]] w fun e w' => e = .returned (.bool r) ∧ Below w.heap.size w w' := by
 have bS := Tryd.underlying50
 have HB := A_.mk (Below.refl w.heap.size w)
 have H : (if (ac == 0 && (af == 0 && (ad == 0 && (ae == 0)))) = true then (some true) else (if ad ≥ 1 then (if ad ≤ 256 then (if ae ≥ 1 then (if ae ≤ 256 then (if ac ≥ (-1048576) then (if ac ≤ 1048576 then (if af ≥ (-1048576) then (some (decide (af ≤ 1048576))) else (some false)) else (some false)) else (some false)) else (some false)) else (some false)) else (some false)) else (some false))) = some r := h
 clear h
 by_cases c2 : (ac == 0 && (af == 0 && (ad == 0 && (ae == 0)))) = true
 ·rw [if_pos c2] at H
  have ay : (ac == 0 && (af == 0 && (ad == 0 && (ae == 0)))) = true := c2
  (try (have az : decide (ac = 0 && (af == 0 && (ad == 0 && (ae == 0)))) = true := by simpa using c2))
  (try (have aA : (ac == 0 && (af == 0 && (ad == 0 && (ae == 0)))) = true := by simpa using c2))
  clear c2
  obtain rfl := Option.some.inj H
  go_enter Tryd.func38, Tryd.ntmps38
  go_wp2_with (first | ((with_reducible refine O_ (N := 1) rfl ?_); refine N_ ?hg (N := 1) ?hd (cs := #[.int .i64 ac, .int .i64 af, .int .i64 ad, .int .i64 ae]) (t := 50) ?hr ?_; (case hd => rfl); (case hg => rfl); (case hr => first | (go_simp; done) | (go_simp; rfl)); intro ab hg w3 hbox hb; have ah := A_.mk (E_ (by exact lB HB.out) hb); have ai := A_.mk (hbox); have aj := A_.mk ((by rw [hg]; exact (G_ (by exact lB HB.out)) : w.heap.size ≤ ab)); have ak := A_.mk ((by rw [hg]; exact (G_ (by exact lB HB.out)) : w.heap.size ≤ ab)); clear HB; have HB := ah; have aa := ai; have al := aj; have ag := ak; clear ah ai aj ak; clear hb hbox hg; have bK : w3.cell? ⟨ab, 0, none⟩ = some (.int .i64 ac) := (D_ aa.out 0).trans rfl; have bL : w3.cell? ⟨ab, 1, none⟩ = some (.int .i64 af) := (D_ aa.out 1).trans rfl; have bM : w3.cell? ⟨ab, 2, none⟩ = some (.int .i64 ad) := (D_ aa.out 2).trans rfl; have bN : w3.cell? ⟨ab, 3, none⟩ = some (.int .i64 ae) := (D_ aa.out 3).trans rfl; have bO := B_ aa.out 0; have bP := B_ aa.out 1; have bQ := B_ aa.out 2; have bR := B_ aa.out 3))
  go_ret
  exact ⟨by first | rfl | (simp [errW_none, errW_some] <;> rfl) | (simp [*, errW_none, errW_some] <;> rfl), by exact lB HB.out⟩
 ·rw [if_neg c2] at H
  have ay : (ac == 0 && (af == 0 && (ad == 0 && (ae == 0)))) = false := by simpa using c2
  (try (have az : decide (ac = 0 && (af == 0 && (ad == 0 && (ae == 0)))) = false := by simpa using c2))
  (try (have aA : (ac == 0 && (af == 0 && (ad == 0 && (ae == 0)))) = false := by simpa using c2))
  (try (have bT : ¬ (ac = 0 && (af == 0 && (ad == 0 && (ae == 0)))) := by simpa using c2))
  clear c2
  by_cases c5 : ad ≥ 1
  ·rw [if_pos c5] at H
   have aB : decide (1 ≤ ad) = true := decide_eq_true c5
   clear c5
   by_cases c6 : ad ≤ 256
   ·rw [if_pos c6] at H
    have aC : decide (ad ≤ 256) = true := decide_eq_true c6
    clear c6
    by_cases c7 : ae ≥ 1
    ·rw [if_pos c7] at H
     have aD : decide (1 ≤ ae) = true := decide_eq_true c7
     clear c7
     by_cases c8 : ae ≤ 256
     ·rw [if_pos c8] at H
      have aE : decide (ae ≤ 256) = true := decide_eq_true c8
      clear c8
      by_cases c9 : ac ≥ (-1048576)
      ·rw [if_pos c9] at H
       have aF : decide ((-1048576) ≤ ac) = true := decide_eq_true c9
       clear c9
       by_cases c10 : ac ≤ 1048576
       ·rw [if_pos c10] at H
        have aw : decide (ac ≤ 1048576) = true := decide_eq_true c10
        clear c10
        by_cases c11 : af ≥ (-1048576)
        ·rw [if_pos c11] at H
         have ax : decide ((-1048576) ≤ af) = true := decide_eq_true c11
         clear c11
         obtain rfl := Option.some.inj H
         go_enter Tryd.func38, Tryd.ntmps38
         go_wp2_with (first | ((with_reducible refine O_ (N := 1) rfl ?_); refine N_ ?hg (N := 1) ?hd (cs := #[.int .i64 ac, .int .i64 af, .int .i64 ad, .int .i64 ae]) (t := 50) ?hr ?_; (case hd => rfl); (case hg => rfl); (case hr => first | (go_simp; done) | (go_simp; rfl)); intro ab hg am hbox hb; have ah := A_.mk (E_ (by exact lB HB.out) hb); have ai := A_.mk (hbox); have aj := A_.mk ((by rw [hg]; exact (G_ (by exact lB HB.out)) : w.heap.size ≤ ab)); have ak := A_.mk ((by rw [hg]; exact (G_ (by exact lB HB.out)) : w.heap.size ≤ ab)); clear HB; have HB := ah; have aa := ai; have al := aj; have ag := ak; clear ah ai aj ak; clear hb hbox hg; have aG : am.cell? ⟨ab, 0, none⟩ = some (.int .i64 ac) := (D_ aa.out 0).trans rfl; have aH : am.cell? ⟨ab, 1, none⟩ = some (.int .i64 af) := (D_ aa.out 1).trans rfl; have aI : am.cell? ⟨ab, 2, none⟩ = some (.int .i64 ad) := (D_ aa.out 2).trans rfl; have aJ : am.cell? ⟨ab, 3, none⟩ = some (.int .i64 ae) := (D_ aa.out 3).trans rfl; have aK := B_ aa.out 0; have aL := B_ aa.out 1; have aM := B_ aa.out 2; have aN := B_ aa.out 3))
         go_ret
         exact ⟨by first | rfl | (simp [errW_none, errW_some] <;> rfl) | (simp [*, errW_none, errW_some] <;> rfl), by exact lB HB.out⟩
        ·rw [if_neg c11] at H
         have ax : decide ((-1048576) ≤ af) = false := decide_eq_false c11
         clear c11
         obtain rfl := Option.some.inj H
         go_enter Tryd.func38, Tryd.ntmps38
         go_wp2_with (first | ((with_reducible refine O_ (N := 1) rfl ?_); refine N_ ?hg (N := 1) ?hd (cs := #[.int .i64 ac, .int .i64 af, .int .i64 ad, .int .i64 ae]) (t := 50) ?hr ?_; (case hd => rfl); (case hg => rfl); (case hr => first | (go_simp; done) | (go_simp; rfl)); intro ab hg an hbox hb; have ah := A_.mk (E_ (by exact lB HB.out) hb); have ai := A_.mk (hbox); have aj := A_.mk ((by rw [hg]; exact (G_ (by exact lB HB.out)) : w.heap.size ≤ ab)); have ak := A_.mk ((by rw [hg]; exact (G_ (by exact lB HB.out)) : w.heap.size ≤ ab)); clear HB; have HB := ah; have aa := ai; have al := aj; have ag := ak; clear ah ai aj ak; clear hb hbox hg; have aO : an.cell? ⟨ab, 0, none⟩ = some (.int .i64 ac) := (D_ aa.out 0).trans rfl; have aP : an.cell? ⟨ab, 1, none⟩ = some (.int .i64 af) := (D_ aa.out 1).trans rfl; have aQ : an.cell? ⟨ab, 2, none⟩ = some (.int .i64 ad) := (D_ aa.out 2).trans rfl; have aR : an.cell? ⟨ab, 3, none⟩ = some (.int .i64 ae) := (D_ aa.out 3).trans rfl; have aS := B_ aa.out 0; have aT := B_ aa.out 1; have aU := B_ aa.out 2; have aV := B_ aa.out 3))
         go_ret
         exact ⟨by first | rfl | (simp [errW_none, errW_some] <;> rfl) | (simp [*, errW_none, errW_some] <;> rfl), by exact lB HB.out⟩
       ·rw [if_neg c10] at H
        have aw : decide (ac ≤ 1048576) = false := decide_eq_false c10
        clear c10
        obtain rfl := Option.some.inj H
        go_enter Tryd.func38, Tryd.ntmps38
        go_wp2_with (first | ((with_reducible refine O_ (N := 1) rfl ?_); refine N_ ?hg (N := 1) ?hd (cs := #[.int .i64 ac, .int .i64 af, .int .i64 ad, .int .i64 ae]) (t := 50) ?hr ?_; (case hd => rfl); (case hg => rfl); (case hr => first | (go_simp; done) | (go_simp; rfl)); intro ab hg ao hbox hb; have ah := A_.mk (E_ (by exact lB HB.out) hb); have ai := A_.mk (hbox); have aj := A_.mk ((by rw [hg]; exact (G_ (by exact lB HB.out)) : w.heap.size ≤ ab)); have ak := A_.mk ((by rw [hg]; exact (G_ (by exact lB HB.out)) : w.heap.size ≤ ab)); clear HB; have HB := ah; have aa := ai; have al := aj; have ag := ak; clear ah ai aj ak; clear hb hbox hg; have aW : ao.cell? ⟨ab, 0, none⟩ = some (.int .i64 ac) := (D_ aa.out 0).trans rfl; have aX : ao.cell? ⟨ab, 1, none⟩ = some (.int .i64 af) := (D_ aa.out 1).trans rfl; have aY : ao.cell? ⟨ab, 2, none⟩ = some (.int .i64 ad) := (D_ aa.out 2).trans rfl; have aZ : ao.cell? ⟨ab, 3, none⟩ = some (.int .i64 ae) := (D_ aa.out 3).trans rfl; have a0 := B_ aa.out 0; have a1 := B_ aa.out 1; have a2 := B_ aa.out 2; have a3 := B_ aa.out 3))
        go_ret
        exact ⟨by first | rfl | (simp [errW_none, errW_some] <;> rfl) | (simp [*, errW_none, errW_some] <;> rfl), by exact lB HB.out⟩
      ·rw [if_neg c9] at H
       have aF : decide ((-1048576) ≤ ac) = false := decide_eq_false c9
       clear c9
       obtain rfl := Option.some.inj H
       go_enter Tryd.func38, Tryd.ntmps38
       go_wp2_with (first | ((with_reducible refine O_ (N := 1) rfl ?_); refine N_ ?hg (N := 1) ?hd (cs := #[.int .i64 ac, .int .i64 af, .int .i64 ad, .int .i64 ae]) (t := 50) ?hr ?_; (case hd => rfl); (case hg => rfl); (case hr => first | (go_simp; done) | (go_simp; rfl)); intro ab hg ap hbox hb; have ah := A_.mk (E_ (by exact lB HB.out) hb); have ai := A_.mk (hbox); have aj := A_.mk ((by rw [hg]; exact (G_ (by exact lB HB.out)) : w.heap.size ≤ ab)); have ak := A_.mk ((by rw [hg]; exact (G_ (by exact lB HB.out)) : w.heap.size ≤ ab)); clear HB; have HB := ah; have aa := ai; have al := aj; have ag := ak; clear ah ai aj ak; clear hb hbox hg; have a4 : ap.cell? ⟨ab, 0, none⟩ = some (.int .i64 ac) := (D_ aa.out 0).trans rfl; have a5 : ap.cell? ⟨ab, 1, none⟩ = some (.int .i64 af) := (D_ aa.out 1).trans rfl; have a6 : ap.cell? ⟨ab, 2, none⟩ = some (.int .i64 ad) := (D_ aa.out 2).trans rfl; have a7 : ap.cell? ⟨ab, 3, none⟩ = some (.int .i64 ae) := (D_ aa.out 3).trans rfl; have a8 := B_ aa.out 0; have a9 := B_ aa.out 1; have ba := B_ aa.out 2; have bb := B_ aa.out 3))
       go_ret
       exact ⟨by first | rfl | (simp [errW_none, errW_some] <;> rfl) | (simp [*, errW_none, errW_some] <;> rfl), by exact lB HB.out⟩
     ·rw [if_neg c8] at H
      have aE : decide (ae ≤ 256) = false := decide_eq_false c8
      clear c8
      obtain rfl := Option.some.inj H
      go_enter Tryd.func38, Tryd.ntmps38
      go_wp2_with (first | ((with_reducible refine O_ (N := 1) rfl ?_); refine N_ ?hg (N := 1) ?hd (cs := #[.int .i64 ac, .int .i64 af, .int .i64 ad, .int .i64 ae]) (t := 50) ?hr ?_; (case hd => rfl); (case hg => rfl); (case hr => first | (go_simp; done) | (go_simp; rfl)); intro ab hg aq hbox hb; have ah := A_.mk (E_ (by exact lB HB.out) hb); have ai := A_.mk (hbox); have aj := A_.mk ((by rw [hg]; exact (G_ (by exact lB HB.out)) : w.heap.size ≤ ab)); have ak := A_.mk ((by rw [hg]; exact (G_ (by exact lB HB.out)) : w.heap.size ≤ ab)); clear HB; have HB := ah; have aa := ai; have al := aj; have ag := ak; clear ah ai aj ak; clear hb hbox hg; have bc : aq.cell? ⟨ab, 0, none⟩ = some (.int .i64 ac) := (D_ aa.out 0).trans rfl; have bd : aq.cell? ⟨ab, 1, none⟩ = some (.int .i64 af) := (D_ aa.out 1).trans rfl; have be : aq.cell? ⟨ab, 2, none⟩ = some (.int .i64 ad) := (D_ aa.out 2).trans rfl; have bf : aq.cell? ⟨ab, 3, none⟩ = some (.int .i64 ae) := (D_ aa.out 3).trans rfl; have bg := B_ aa.out 0; have bh := B_ aa.out 1; have bi := B_ aa.out 2; have bj := B_ aa.out 3))
      go_ret
      exact ⟨by first | rfl | (simp [errW_none, errW_some] <;> rfl) | (simp [*, errW_none, errW_some] <;> rfl), by exact lB HB.out⟩
    ·rw [if_neg c7] at H
     have aD : decide (1 ≤ ae) = false := decide_eq_false c7
     clear c7
     obtain rfl := Option.some.inj H
     go_enter Tryd.func38, Tryd.ntmps38
     go_wp2_with (first | ((with_reducible refine O_ (N := 1) rfl ?_); refine N_ ?hg (N := 1) ?hd (cs := #[.int .i64 ac, .int .i64 af, .int .i64 ad, .int .i64 ae]) (t := 50) ?hr ?_; (case hd => rfl); (case hg => rfl); (case hr => first | (go_simp; done) | (go_simp; rfl)); intro ab hg ar hbox hb; have ah := A_.mk (E_ (by exact lB HB.out) hb); have ai := A_.mk (hbox); have aj := A_.mk ((by rw [hg]; exact (G_ (by exact lB HB.out)) : w.heap.size ≤ ab)); have ak := A_.mk ((by rw [hg]; exact (G_ (by exact lB HB.out)) : w.heap.size ≤ ab)); clear HB; have HB := ah; have aa := ai; have al := aj; have ag := ak; clear ah ai aj ak; clear hb hbox hg; have bk : ar.cell? ⟨ab, 0, none⟩ = some (.int .i64 ac) := (D_ aa.out 0).trans rfl; have bl : ar.cell? ⟨ab, 1, none⟩ = some (.int .i64 af) := (D_ aa.out 1).trans rfl; have bm : ar.cell? ⟨ab, 2, none⟩ = some (.int .i64 ad) := (D_ aa.out 2).trans rfl; have bn : ar.cell? ⟨ab, 3, none⟩ = some (.int .i64 ae) := (D_ aa.out 3).trans rfl; have bo := B_ aa.out 0; have bp := B_ aa.out 1; have bq := B_ aa.out 2; have br := B_ aa.out 3))
     go_ret
     exact ⟨by first | rfl | (simp [errW_none, errW_some] <;> rfl) | (simp [*, errW_none, errW_some] <;> rfl), by exact lB HB.out⟩
   ·rw [if_neg c6] at H
    have aC : decide (ad ≤ 256) = false := decide_eq_false c6
    clear c6
    obtain rfl := Option.some.inj H
    go_enter Tryd.func38, Tryd.ntmps38
    go_wp2_with (first | ((with_reducible refine O_ (N := 1) rfl ?_); refine N_ ?hg (N := 1) ?hd (cs := #[.int .i64 ac, .int .i64 af, .int .i64 ad, .int .i64 ae]) (t := 50) ?hr ?_; (case hd => rfl); (case hg => rfl); (case hr => first | (go_simp; done) | (go_simp; rfl)); intro ab hg au hbox hb; have ah := A_.mk (E_ (by exact lB HB.out) hb); have ai := A_.mk (hbox); have aj := A_.mk ((by rw [hg]; exact (G_ (by exact lB HB.out)) : w.heap.size ≤ ab)); have ak := A_.mk ((by rw [hg]; exact (G_ (by exact lB HB.out)) : w.heap.size ≤ ab)); clear HB; have HB := ah; have aa := ai; have al := aj; have ag := ak; clear ah ai aj ak; clear hb hbox hg; have bs : au.cell? ⟨ab, 0, none⟩ = some (.int .i64 ac) := (D_ aa.out 0).trans rfl; have bu : au.cell? ⟨ab, 1, none⟩ = some (.int .i64 af) := (D_ aa.out 1).trans rfl; have bv : au.cell? ⟨ab, 2, none⟩ = some (.int .i64 ad) := (D_ aa.out 2).trans rfl; have bw : au.cell? ⟨ab, 3, none⟩ = some (.int .i64 ae) := (D_ aa.out 3).trans rfl; have bx := B_ aa.out 0; have bz := B_ aa.out 1; have bA := B_ aa.out 2; have bB := B_ aa.out 3))
    go_ret
    exact ⟨by first | rfl | (simp [errW_none, errW_some] <;> rfl) | (simp [*, errW_none, errW_some] <;> rfl), by exact lB HB.out⟩
  ·rw [if_neg c5] at H
   have aB : decide (1 ≤ ad) = false := decide_eq_false c5
   clear c5
   obtain rfl := Option.some.inj H
   go_enter Tryd.func38, Tryd.ntmps38
   go_wp2_with (first | ((with_reducible refine O_ (N := 1) rfl ?_); refine N_ ?hg (N := 1) ?hd (cs := #[.int .i64 ac, .int .i64 af, .int .i64 ad, .int .i64 ae]) (t := 50) ?hr ?_; (case hd => rfl); (case hg => rfl); (case hr => first | (go_simp; done) | (go_simp; rfl)); intro ab hg av hbox hb; have ah := A_.mk (E_ (by exact lB HB.out) hb); have ai := A_.mk (hbox); have aj := A_.mk ((by rw [hg]; exact (G_ (by exact lB HB.out)) : w.heap.size ≤ ab)); have ak := A_.mk ((by rw [hg]; exact (G_ (by exact lB HB.out)) : w.heap.size ≤ ab)); clear HB; have HB := ah; have aa := ai; have al := aj; have ag := ak; clear ah ai aj ak; clear hb hbox hg; have bC : av.cell? ⟨ab, 0, none⟩ = some (.int .i64 ac) := (D_ aa.out 0).trans rfl; have bD : av.cell? ⟨ab, 1, none⟩ = some (.int .i64 af) := (D_ aa.out 1).trans rfl; have bE : av.cell? ⟨ab, 2, none⟩ = some (.int .i64 ad) := (D_ aa.out 2).trans rfl; have bF : av.cell? ⟨ab, 3, none⟩ = some (.int .i64 ae) := (D_ aa.out 3).trans rfl; have bG := B_ aa.out 0; have bH := B_ aa.out 1; have bI := B_ aa.out 2; have bJ := B_ aa.out 3))
   go_ret
   exact ⟨by first | rfl | (simp [errW_none, errW_some] <;> rfl) | (simp [*, errW_none, errW_some] <;> rfl), by exact lB HB.out⟩

end Go.Proofs.YtjcgmjhcaaaieaaDoor.Pr
