-- printed by a program of this session's (wip/mp.sh), out of the translation; the texts of its folder 'given' are typed by hand
-- shortened (wip/short.py)
import Derived.Test.YtjcgmjhcaaaieaaDoorPr0
import Derived.Test.YtjcgmjhcaaaieaaDoorPr4
namespace Go.Proofs.YtjcgmjhcaaaieaaDoor.Pr
open Go.RowKit Go.Proofs.YtjcgmjhcaaaieaaDoorW.PrintWords Go.Proofs.YtjcgmjhcaaaieaaDoorW.PrintLast Go.Proofs.YtjcgmjhcaaaieaaDoorW.PrintMore
attribute [local go_sem] max2_int min2_int max_two min_two max_three min_three max_four min_four   -- for this text's walks alone
attribute [local go_sem high] eqA32
set_option linter.unusedVariables false
set_option linter.unusedSimpArgs false

/-! ### atlas_numbers: function 29 -/
def atlas_numbers.f (ad : Int) (am : Int) (al : Int) (aj : Int) (ai : Int) (ah : Int) (ag : Int) (af : Int) (ae : List (S54)) (ar : List (S84)) (ac : List ByteArray) : Option (Bool) := (atlas_within.f ad 16 16384).bind fun aT => (if aT = true then ((atlas_within.f am 1 128).bind fun aI => (if aI = true then ((atlas_within.f al 1 16).bind fun aG => (if aG = true then ((atlas_short.f aj).bind fun aF => (if aF = true then ((atlas_short.f ai).bind fun aw => (if aw = true then ((atlas_short.f ah).bind fun au => (if au = true then ((atlas_within.f ag 1 1024).bind fun ao => (if ao = true then ((atlas_within.f af 1 1024).bind fun an => (if an = true then (if (ac.length : Int) ≤ 16 then ((atlas_within.f (ae.length : Int) 1 1024).bind fun ak => (some ak)) else (some false)) else (some false))) else (some false))) else (some false))) else (some false))) else (some false))) else (some false))) else (some false))) else (some false))
set_option maxHeartbeats 8000000 in
set_option maxRecDepth 100000 in
theorem atlas_numbers.calls (ad : Int) (am : Int) (al : Int) (aj : Int) (ai : Int) (ah : Int) (ag : Int) (af : Int) (ax : Option Addr) (ay : Nat) (ae : List (S54)) (az : Option Addr) (aA : Nat) (ar : List (S84)) (ap : Option Addr) (aq : Nat) (ac : List ByteArray) (r : Bool) (w : World) (aW : Kd.C k54 w ax ae.length ae) (aX : ae.length ≤ ay) (aY : Kd.C k84 w az ar.length ar) (aZ : ar.length ≤ aA) (aU : Kd.C Kd.string w ap ac.length ac) (aV : ac.length ≤ aq) (h : atlas_numbers.f ad am al aj ai ah ag af ae ar ac = some r) :
  Calls Tryd.prog 29 #[.agg #[.int .i64 ad, .int .i64 am, .int .i64 al, .int .i64 aj, .int .i64 ai, .int .i64 ah, .int .i64 ag, .int .i64 af, .slice ax ae.length ay, .slice az ar.length aA, .slice ap ac.length aq]] w fun e w' => e = .returned (.bool r) ∧ Below w.heap.size w w' := by
 have eO := Tryd.underlying28
 have eK := A_.mk aW
 have eL := A_.mk aX
 clear aW aX
 have eM := A_.mk aY
 have eN := A_.mk aZ
 clear aY aZ
 have eI := A_.mk aU
 have eJ := A_.mk aV
 clear aU aV
 have HB := A_.mk (Below.refl w.heap.size w)
 have H : ((atlas_within.f ad 16 16384).bind fun aT => (if aT = true then ((atlas_within.f am 1 128).bind fun aI => (if aI = true then ((atlas_within.f al 1 16).bind fun aG => (if aG = true then ((atlas_short.f aj).bind fun aF => (if aF = true then ((atlas_short.f ai).bind fun aw => (if aw = true then ((atlas_short.f ah).bind fun au => (if au = true then ((atlas_within.f ag 1 1024).bind fun ao => (if ao = true then ((atlas_within.f af 1 1024).bind fun an => (if an = true then (if (ac.length : Int) ≤ 16 then ((atlas_within.f (ae.length : Int) 1 1024).bind fun ak => (some ak)) else (some false)) else (some false))) else (some false))) else (some false))) else (some false))) else (some false))) else (some false))) else (some false))) else (some false))) = some r := h
 clear h
 replace H := Option.bind_eq_some_iff.mp H
 obtain ⟨aT, A20, H⟩ := H
 replace H : (if aT = true then ((atlas_within.f am 1 128).bind fun aI => (if aI = true then ((atlas_within.f al 1 16).bind fun aG => (if aG = true then ((atlas_short.f aj).bind fun aF => (if aF = true then ((atlas_short.f ai).bind fun aw => (if aw = true then ((atlas_short.f ah).bind fun au => (if au = true then ((atlas_within.f ag 1 1024).bind fun ao => (if ao = true then ((atlas_within.f af 1 1024).bind fun an => (if an = true then (if (ac.length : Int) ≤ 16 then ((atlas_within.f (ae.length : Int) 1 1024).bind fun ak => (some ak)) else (some false)) else (some false))) else (some false))) else (some false))) else (some false))) else (some false))) else (some false))) else (some false))) else (some false)) = some r := H
 have A2 := A_.mk A20
 clear A20
 by_cases c3 : aT = true
 ·subst c3
  have H1 : ((atlas_within.f am 1 128).bind fun aI => (if aI = true then ((atlas_within.f al 1 16).bind fun aG => (if aG = true then ((atlas_short.f aj).bind fun aF => (if aF = true then ((atlas_short.f ai).bind fun aw => (if aw = true then ((atlas_short.f ah).bind fun au => (if au = true then ((atlas_within.f ag 1 1024).bind fun ao => (if ao = true then ((atlas_within.f af 1 1024).bind fun an => (if an = true then (if (ac.length : Int) ≤ 16 then ((atlas_within.f (ae.length : Int) 1 1024).bind fun ak => (some ak)) else (some false)) else (some false))) else (some false))) else (some false))) else (some false))) else (some false))) else (some false))) else (some false))) = some r := by rw [if_pos rfl] at H; exact H
  clear H
  have H := H1
  clear H1
  replace H := Option.bind_eq_some_iff.mp H
  obtain ⟨aI, A40, H⟩ := H
  replace H : (if aI = true then ((atlas_within.f al 1 16).bind fun aG => (if aG = true then ((atlas_short.f aj).bind fun aF => (if aF = true then ((atlas_short.f ai).bind fun aw => (if aw = true then ((atlas_short.f ah).bind fun au => (if au = true then ((atlas_within.f ag 1 1024).bind fun ao => (if ao = true then ((atlas_within.f af 1 1024).bind fun an => (if an = true then (if (ac.length : Int) ≤ 16 then ((atlas_within.f (ae.length : Int) 1 1024).bind fun ak => (some ak)) else (some false)) else (some false))) else (some false))) else (some false))) else (some false))) else (some false))) else (some false))) else (some false)) = some r := H
  have A4 := A_.mk A40
  clear A40
  by_cases c5 : aI = true
  ·subst c5
   have H1 : ((atlas_within.f al 1 16).bind fun aG => (if aG = true then ((atlas_short.f aj).bind fun aF => (if aF = true then ((atlas_short.f ai).bind fun aw => (if aw = true then ((atlas_short.f ah).bind fun au => (if au = true then ((atlas_within.f ag 1 1024).bind fun ao => (if ao = true then ((atlas_within.f af 1 1024).bind fun an => (if an = true then (if (ac.length : Int) ≤ 16 then ((atlas_within.f (ae.length : Int) 1 1024).bind fun ak => (some ak)) else (some false)) else (some false))) else (some false))) else (some false))) else (some false))) else (some false))) else (some false))) = some r := by rw [if_pos rfl] at H; exact H
   clear H
   have H := H1
   clear H1
   replace H := Option.bind_eq_some_iff.mp H
   obtain ⟨aG, A60, H⟩ := H
   replace H : (if aG = true then ((atlas_short.f aj).bind fun aF => (if aF = true then ((atlas_short.f ai).bind fun aw => (if aw = true then ((atlas_short.f ah).bind fun au => (if au = true then ((atlas_within.f ag 1 1024).bind fun ao => (if ao = true then ((atlas_within.f af 1 1024).bind fun an => (if an = true then (if (ac.length : Int) ≤ 16 then ((atlas_within.f (ae.length : Int) 1 1024).bind fun ak => (some ak)) else (some false)) else (some false))) else (some false))) else (some false))) else (some false))) else (some false))) else (some false)) = some r := H
   have A6 := A_.mk A60
   clear A60
   by_cases c7 : aG = true
   ·subst c7
    have H1 : ((atlas_short.f aj).bind fun aF => (if aF = true then ((atlas_short.f ai).bind fun aw => (if aw = true then ((atlas_short.f ah).bind fun au => (if au = true then ((atlas_within.f ag 1 1024).bind fun ao => (if ao = true then ((atlas_within.f af 1 1024).bind fun an => (if an = true then (if (ac.length : Int) ≤ 16 then ((atlas_within.f (ae.length : Int) 1 1024).bind fun ak => (some ak)) else (some false)) else (some false))) else (some false))) else (some false))) else (some false))) else (some false))) = some r := by rw [if_pos rfl] at H; exact H
    clear H
    have H := H1
    clear H1
    replace H := Option.bind_eq_some_iff.mp H
    obtain ⟨aF, A80, H⟩ := H
    replace H : (if aF = true then ((atlas_short.f ai).bind fun aw => (if aw = true then ((atlas_short.f ah).bind fun au => (if au = true then ((atlas_within.f ag 1 1024).bind fun ao => (if ao = true then ((atlas_within.f af 1 1024).bind fun an => (if an = true then (if (ac.length : Int) ≤ 16 then ((atlas_within.f (ae.length : Int) 1 1024).bind fun ak => (some ak)) else (some false)) else (some false))) else (some false))) else (some false))) else (some false))) else (some false)) = some r := H
    have A8 := A_.mk A80
    clear A80
    by_cases c9 : aF = true
    ·subst c9
     have H1 : ((atlas_short.f ai).bind fun aw => (if aw = true then ((atlas_short.f ah).bind fun au => (if au = true then ((atlas_within.f ag 1 1024).bind fun ao => (if ao = true then ((atlas_within.f af 1 1024).bind fun an => (if an = true then (if (ac.length : Int) ≤ 16 then ((atlas_within.f (ae.length : Int) 1 1024).bind fun ak => (some ak)) else (some false)) else (some false))) else (some false))) else (some false))) else (some false))) = some r := by rw [if_pos rfl] at H; exact H
     clear H
     have H := H1
     clear H1
     replace H := Option.bind_eq_some_iff.mp H
     obtain ⟨aw, A100, H⟩ := H
     replace H : (if aw = true then ((atlas_short.f ah).bind fun au => (if au = true then ((atlas_within.f ag 1 1024).bind fun ao => (if ao = true then ((atlas_within.f af 1 1024).bind fun an => (if an = true then (if (ac.length : Int) ≤ 16 then ((atlas_within.f (ae.length : Int) 1 1024).bind fun ak => (some ak)) else (some false)) else (some false))) else (some false))) else (some false))) else (some false)) = some r := H
     have A10 := A_.mk A100
     clear A100
     by_cases c11 : aw = true
     ·subst c11
      have H1 : ((atlas_short.f ah).bind fun au => (if au = true then ((atlas_within.f ag 1 1024).bind fun ao => (if ao = true then ((atlas_within.f af 1 1024).bind fun an => (if an = true then (if (ac.length : Int) ≤ 16 then ((atlas_within.f (ae.length : Int) 1 1024).bind fun ak => (some ak)) else (some false)) else (some false))) else (some false))) else (some false))) = some r := by rw [if_pos rfl] at H; exact H
      clear H
      have H := H1
      clear H1
      replace H := Option.bind_eq_some_iff.mp H
      obtain ⟨au, A120, H⟩ := H
      replace H : (if au = true then ((atlas_within.f ag 1 1024).bind fun ao => (if ao = true then ((atlas_within.f af 1 1024).bind fun an => (if an = true then (if (ac.length : Int) ≤ 16 then ((atlas_within.f (ae.length : Int) 1 1024).bind fun ak => (some ak)) else (some false)) else (some false))) else (some false))) else (some false)) = some r := H
      have A12 := A_.mk A120
      clear A120
      by_cases c13 : au = true
      ·subst c13
       have H1 : ((atlas_within.f ag 1 1024).bind fun ao => (if ao = true then ((atlas_within.f af 1 1024).bind fun an => (if an = true then (if (ac.length : Int) ≤ 16 then ((atlas_within.f (ae.length : Int) 1 1024).bind fun ak => (some ak)) else (some false)) else (some false))) else (some false))) = some r := by rw [if_pos rfl] at H; exact H
       clear H
       have H := H1
       clear H1
       replace H := Option.bind_eq_some_iff.mp H
       obtain ⟨ao, A140, H⟩ := H
       replace H : (if ao = true then ((atlas_within.f af 1 1024).bind fun an => (if an = true then (if (ac.length : Int) ≤ 16 then ((atlas_within.f (ae.length : Int) 1 1024).bind fun ak => (some ak)) else (some false)) else (some false))) else (some false)) = some r := H
       have A14 := A_.mk A140
       clear A140
       by_cases c15 : ao = true
       ·subst c15
        have H1 : ((atlas_within.f af 1 1024).bind fun an => (if an = true then (if (ac.length : Int) ≤ 16 then ((atlas_within.f (ae.length : Int) 1 1024).bind fun ak => (some ak)) else (some false)) else (some false))) = some r := by rw [if_pos rfl] at H; exact H
        clear H
        have H := H1
        clear H1
        replace H := Option.bind_eq_some_iff.mp H
        obtain ⟨an, A160, H⟩ := H
        replace H : (if an = true then (if (ac.length : Int) ≤ 16 then ((atlas_within.f (ae.length : Int) 1 1024).bind fun ak => (some ak)) else (some false)) else (some false)) = some r := H
        have A16 := A_.mk A160
        clear A160
        by_cases c17 : an = true
        ·subst c17
         have H1 : (if (ac.length : Int) ≤ 16 then ((atlas_within.f (ae.length : Int) 1 1024).bind fun ak => (some ak)) else (some false)) = some r := by rw [if_pos rfl] at H; exact H
         clear H
         have H := H1
         clear H1
         by_cases c18 : (ac.length : Int) ≤ 16
         ·rw [if_pos c18] at H
          have a0 : decide ((ac.length : Int) ≤ 16) = true := decide_eq_true c18
          have a1 : decide (ac.length ≤ 16) = true := decide_eq_true (by omega)
          clear c18
          replace H := Option.bind_eq_some_iff.mp H
          obtain ⟨ak, A190, H⟩ := H
          replace H : (some ak) = some r := H
          have A19 := A_.mk A190
          clear A190
          obtain rfl := Option.some.inj H
          go_enter Tryd.func29, Tryd.ntmps29
          go_wp2_with (first | ((with_reducible refine O_ (N := 1) rfl ?_); (try (refine Q_ (by rfl) ?_; dsimp only)); refine N_ ?hg (N := 1) ?hd (cs := #[.int .i64 ad, .int .i64 am, .int .i64 al, .int .i64 aj, .int .i64 ai, .int .i64 ah, .int .i64 ag, .int .i64 af, .slice ax ae.length ay, .slice az ar.length aA, .slice ap ac.length aq]) (t := 28) ?hr ?_; (case hd => rfl); (case hg => rfl); (case hr => first | (go_simp; done) | (go_simp; rfl)); intro ab hg aJ hbox hb; have aB := A_.mk (E_ (by exact lB HB.out) hb); have aC := A_.mk (hbox); have aD := A_.mk ((by rw [hg]; exact (G_ (by exact lB HB.out)) : w.heap.size ≤ ab)); have aE := A_.mk ((by rw [hg]; exact (G_ (by exact lB HB.out)) : w.heap.size ≤ ab)); clear HB; have HB := aB; have aa := aC; have aH := aD; have av := aE; clear aB aC aD aE; clear hb hbox hg; have bm : aJ.cell? ⟨ab, 0, none⟩ = some (.int .i64 ad) := (D_ aa.out 0).trans rfl; have bn : aJ.cell? ⟨ab, 1, none⟩ = some (.int .i64 am) := (D_ aa.out 1).trans rfl; have bo : aJ.cell? ⟨ab, 2, none⟩ = some (.int .i64 al) := (D_ aa.out 2).trans rfl; have bp : aJ.cell? ⟨ab, 3, none⟩ = some (.int .i64 aj) := (D_ aa.out 3).trans rfl; have bq : aJ.cell? ⟨ab, 4, none⟩ = some (.int .i64 ai) := (D_ aa.out 4).trans rfl; have br : aJ.cell? ⟨ab, 5, none⟩ = some (.int .i64 ah) := (D_ aa.out 5).trans rfl; have bs : aJ.cell? ⟨ab, 6, none⟩ = some (.int .i64 ag) := (D_ aa.out 6).trans rfl; have bu : aJ.cell? ⟨ab, 7, none⟩ = some (.int .i64 af) := (D_ aa.out 7).trans rfl; have bv : aJ.cell? ⟨ab, 8, none⟩ = some (.slice ax ae.length ay) := (D_ aa.out 8).trans rfl; have bw : aJ.cell? ⟨ab, 9, none⟩ = some (.slice az ar.length aA) := (D_ aa.out 9).trans rfl; have a2 : aJ.cell? ⟨ab, 10, none⟩ = some (.slice ap ac.length aq) := (D_ aa.out 10).trans rfl; have bx := B_ aa.out 0; have bz := B_ aa.out 1; have bA := B_ aa.out 2; have bB := B_ aa.out 3; have bC := B_ aa.out 4; have bD := B_ aa.out 5; have bE := B_ aa.out 6; have bF := B_ aa.out 7; have bG := B_ aa.out 8; have bH := B_ aa.out 9; have a3 := B_ aa.out 10) | ((with_reducible refine P_ (f := 39) rfl ?_); refine R_ (some 5) rfl rfl Tryd.func39 (by kernel_rfl) rfl #[.int .i64 ad, .int .i64 16, .int .i64 16384] rfl (by (try simp only [List.map_toArray, List.map_cons, List.map_nil]); first | done | rfl | (simp only [List.length_drop, List.length_take]; rfl)) ?_; (with_reducible refine (atlas_within.calls ad 16 16384 true _ A2.out).mono ?_); rintro e w' ⟨rfl, ⟨nd, rfl⟩⟩; refine ⟨_, rfl, ?_⟩) | (go_at_call 39; (with_reducible refine (atlas_within.calls am 1 128 true _ A4.out).mono ?_); rintro e w' ⟨rfl, ⟨nd, rfl⟩⟩) | (go_at_call 39; (with_reducible refine (atlas_within.calls al 1 16 true _ A6.out).mono ?_); rintro e w' ⟨rfl, ⟨nd, rfl⟩⟩) | (go_at_call 40; (with_reducible refine (atlas_short.calls aj true _ A8.out).mono ?_); rintro e w' ⟨rfl, ⟨nd, rfl⟩⟩) | (go_at_call 40; (with_reducible refine (atlas_short.calls ai true _ A10.out).mono ?_); rintro e w' ⟨rfl, ⟨nd, rfl⟩⟩) | (go_at_call 40; (with_reducible refine (atlas_short.calls ah true _ A12.out).mono ?_); rintro e w' ⟨rfl, ⟨nd, rfl⟩⟩) | (go_at_call 39; (with_reducible refine (atlas_within.calls ag 1 1024 true _ A14.out).mono ?_); rintro e w' ⟨rfl, ⟨nd, rfl⟩⟩) | (go_at_call 39; (with_reducible refine (atlas_within.calls af 1 1024 true _ A16.out).mono ?_); rintro e w' ⟨rfl, ⟨nd, rfl⟩⟩) | (go_at_call 39; (with_reducible refine (atlas_within.calls (ae.length : Int) 1 1024 ak _ A19.out).mono ?_); rintro e w' ⟨rfl, ⟨nd, rfl⟩⟩))
          go_ret
          exact ⟨by first | rfl | (simp [errW_none, errW_some] <;> rfl) | (simp [*, errW_none, errW_some] <;> rfl), by exact lB HB.out⟩
         ·rw [if_neg c18] at H
          have a0 : decide ((ac.length : Int) ≤ 16) = false := decide_eq_false c18
          have a1 : decide (ac.length ≤ 16) = false := decide_eq_false (by omega)
          clear c18
          obtain rfl := Option.some.inj H
          go_enter Tryd.func29, Tryd.ntmps29
          go_wp2_with (first | ((with_reducible refine O_ (N := 1) rfl ?_); (try (refine Q_ (by rfl) ?_; dsimp only)); refine N_ ?hg (N := 1) ?hd (cs := #[.int .i64 ad, .int .i64 am, .int .i64 al, .int .i64 aj, .int .i64 ai, .int .i64 ah, .int .i64 ag, .int .i64 af, .slice ax ae.length ay, .slice az ar.length aA, .slice ap ac.length aq]) (t := 28) ?hr ?_; (case hd => rfl); (case hg => rfl); (case hr => first | (go_simp; done) | (go_simp; rfl)); intro ab hg aK hbox hb; have aB := A_.mk (E_ (by exact lB HB.out) hb); have aC := A_.mk (hbox); have aD := A_.mk ((by rw [hg]; exact (G_ (by exact lB HB.out)) : w.heap.size ≤ ab)); have aE := A_.mk ((by rw [hg]; exact (G_ (by exact lB HB.out)) : w.heap.size ≤ ab)); clear HB; have HB := aB; have aa := aC; have aH := aD; have av := aE; clear aB aC aD aE; clear hb hbox hg; have bI : aK.cell? ⟨ab, 0, none⟩ = some (.int .i64 ad) := (D_ aa.out 0).trans rfl; have bJ : aK.cell? ⟨ab, 1, none⟩ = some (.int .i64 am) := (D_ aa.out 1).trans rfl; have bK : aK.cell? ⟨ab, 2, none⟩ = some (.int .i64 al) := (D_ aa.out 2).trans rfl; have bL : aK.cell? ⟨ab, 3, none⟩ = some (.int .i64 aj) := (D_ aa.out 3).trans rfl; have bM : aK.cell? ⟨ab, 4, none⟩ = some (.int .i64 ai) := (D_ aa.out 4).trans rfl; have bN : aK.cell? ⟨ab, 5, none⟩ = some (.int .i64 ah) := (D_ aa.out 5).trans rfl; have bO : aK.cell? ⟨ab, 6, none⟩ = some (.int .i64 ag) := (D_ aa.out 6).trans rfl; have bP : aK.cell? ⟨ab, 7, none⟩ = some (.int .i64 af) := (D_ aa.out 7).trans rfl; have bQ : aK.cell? ⟨ab, 8, none⟩ = some (.slice ax ae.length ay) := (D_ aa.out 8).trans rfl; have bR : aK.cell? ⟨ab, 9, none⟩ = some (.slice az ar.length aA) := (D_ aa.out 9).trans rfl; have a4 : aK.cell? ⟨ab, 10, none⟩ = some (.slice ap ac.length aq) := (D_ aa.out 10).trans rfl; have bS := B_ aa.out 0; have bT := B_ aa.out 1; have bU := B_ aa.out 2; have bV := B_ aa.out 3; have bW := B_ aa.out 4; have bX := B_ aa.out 5; have bY := B_ aa.out 6; have bZ := B_ aa.out 7; have b0 := B_ aa.out 8; have b1 := B_ aa.out 9; have a5 := B_ aa.out 10) | ((with_reducible refine P_ (f := 39) rfl ?_); refine R_ (some 5) rfl rfl Tryd.func39 (by kernel_rfl) rfl #[.int .i64 ad, .int .i64 16, .int .i64 16384] rfl (by (try simp only [List.map_toArray, List.map_cons, List.map_nil]); first | done | rfl | (simp only [List.length_drop, List.length_take]; rfl)) ?_; (with_reducible refine (atlas_within.calls ad 16 16384 true _ A2.out).mono ?_); rintro e w' ⟨rfl, ⟨nd, rfl⟩⟩; refine ⟨_, rfl, ?_⟩) | (go_at_call 39; (with_reducible refine (atlas_within.calls am 1 128 true _ A4.out).mono ?_); rintro e w' ⟨rfl, ⟨nd, rfl⟩⟩) | (go_at_call 39; (with_reducible refine (atlas_within.calls al 1 16 true _ A6.out).mono ?_); rintro e w' ⟨rfl, ⟨nd, rfl⟩⟩) | (go_at_call 40; (with_reducible refine (atlas_short.calls aj true _ A8.out).mono ?_); rintro e w' ⟨rfl, ⟨nd, rfl⟩⟩) | (go_at_call 40; (with_reducible refine (atlas_short.calls ai true _ A10.out).mono ?_); rintro e w' ⟨rfl, ⟨nd, rfl⟩⟩) | (go_at_call 40; (with_reducible refine (atlas_short.calls ah true _ A12.out).mono ?_); rintro e w' ⟨rfl, ⟨nd, rfl⟩⟩) | (go_at_call 39; (with_reducible refine (atlas_within.calls ag 1 1024 true _ A14.out).mono ?_); rintro e w' ⟨rfl, ⟨nd, rfl⟩⟩) | (go_at_call 39; (with_reducible refine (atlas_within.calls af 1 1024 true _ A16.out).mono ?_); rintro e w' ⟨rfl, ⟨nd, rfl⟩⟩))
          go_ret
          exact ⟨by first | rfl | (simp [errW_none, errW_some] <;> rfl) | (simp [*, errW_none, errW_some] <;> rfl), by exact lB HB.out⟩
        ·replace c17 := Bool.eq_false_iff.mpr c17
         subst c17
         have H1 : (some false) = some r := by rw [if_neg (show ¬ (false = true) by decide)] at H; exact H
         clear H
         have H := H1
         clear H1
         obtain rfl := Option.some.inj H
         go_enter Tryd.func29, Tryd.ntmps29
         go_wp2_with (first | ((with_reducible refine O_ (N := 1) rfl ?_); (try (refine Q_ (by rfl) ?_; dsimp only)); refine N_ ?hg (N := 1) ?hd (cs := #[.int .i64 ad, .int .i64 am, .int .i64 al, .int .i64 aj, .int .i64 ai, .int .i64 ah, .int .i64 ag, .int .i64 af, .slice ax ae.length ay, .slice az ar.length aA, .slice ap ac.length aq]) (t := 28) ?hr ?_; (case hd => rfl); (case hg => rfl); (case hr => first | (go_simp; done) | (go_simp; rfl)); intro ab hg aL hbox hb; have aB := A_.mk (E_ (by exact lB HB.out) hb); have aC := A_.mk (hbox); have aD := A_.mk ((by rw [hg]; exact (G_ (by exact lB HB.out)) : w.heap.size ≤ ab)); have aE := A_.mk ((by rw [hg]; exact (G_ (by exact lB HB.out)) : w.heap.size ≤ ab)); clear HB; have HB := aB; have aa := aC; have aH := aD; have av := aE; clear aB aC aD aE; clear hb hbox hg; have b2 : aL.cell? ⟨ab, 0, none⟩ = some (.int .i64 ad) := (D_ aa.out 0).trans rfl; have b3 : aL.cell? ⟨ab, 1, none⟩ = some (.int .i64 am) := (D_ aa.out 1).trans rfl; have b4 : aL.cell? ⟨ab, 2, none⟩ = some (.int .i64 al) := (D_ aa.out 2).trans rfl; have b5 : aL.cell? ⟨ab, 3, none⟩ = some (.int .i64 aj) := (D_ aa.out 3).trans rfl; have b6 : aL.cell? ⟨ab, 4, none⟩ = some (.int .i64 ai) := (D_ aa.out 4).trans rfl; have b7 : aL.cell? ⟨ab, 5, none⟩ = some (.int .i64 ah) := (D_ aa.out 5).trans rfl; have b8 : aL.cell? ⟨ab, 6, none⟩ = some (.int .i64 ag) := (D_ aa.out 6).trans rfl; have b9 : aL.cell? ⟨ab, 7, none⟩ = some (.int .i64 af) := (D_ aa.out 7).trans rfl; have ca : aL.cell? ⟨ab, 8, none⟩ = some (.slice ax ae.length ay) := (D_ aa.out 8).trans rfl; have cb : aL.cell? ⟨ab, 9, none⟩ = some (.slice az ar.length aA) := (D_ aa.out 9).trans rfl; have a6 : aL.cell? ⟨ab, 10, none⟩ = some (.slice ap ac.length aq) := (D_ aa.out 10).trans rfl; have cc := B_ aa.out 0; have cd := B_ aa.out 1; have ce := B_ aa.out 2; have cf := B_ aa.out 3; have cg := B_ aa.out 4; have ch := B_ aa.out 5; have ci := B_ aa.out 6; have cj := B_ aa.out 7; have ck := B_ aa.out 8; have cl := B_ aa.out 9; have a7 := B_ aa.out 10) | ((with_reducible refine P_ (f := 39) rfl ?_); refine R_ (some 5) rfl rfl Tryd.func39 (by kernel_rfl) rfl #[.int .i64 ad, .int .i64 16, .int .i64 16384] rfl (by (try simp only [List.map_toArray, List.map_cons, List.map_nil]); first | done | rfl | (simp only [List.length_drop, List.length_take]; rfl)) ?_; (with_reducible refine (atlas_within.calls ad 16 16384 true _ A2.out).mono ?_); rintro e w' ⟨rfl, ⟨nd, rfl⟩⟩; refine ⟨_, rfl, ?_⟩) | (go_at_call 39; (with_reducible refine (atlas_within.calls am 1 128 true _ A4.out).mono ?_); rintro e w' ⟨rfl, ⟨nd, rfl⟩⟩) | (go_at_call 39; (with_reducible refine (atlas_within.calls al 1 16 true _ A6.out).mono ?_); rintro e w' ⟨rfl, ⟨nd, rfl⟩⟩) | (go_at_call 40; (with_reducible refine (atlas_short.calls aj true _ A8.out).mono ?_); rintro e w' ⟨rfl, ⟨nd, rfl⟩⟩) | (go_at_call 40; (with_reducible refine (atlas_short.calls ai true _ A10.out).mono ?_); rintro e w' ⟨rfl, ⟨nd, rfl⟩⟩) | (go_at_call 40; (with_reducible refine (atlas_short.calls ah true _ A12.out).mono ?_); rintro e w' ⟨rfl, ⟨nd, rfl⟩⟩) | (go_at_call 39; (with_reducible refine (atlas_within.calls ag 1 1024 true _ A14.out).mono ?_); rintro e w' ⟨rfl, ⟨nd, rfl⟩⟩) | (go_at_call 39; (with_reducible refine (atlas_within.calls af 1 1024 false _ A16.out).mono ?_); rintro e w' ⟨rfl, ⟨nd, rfl⟩⟩))
         go_ret
         exact ⟨by first | rfl | (simp [errW_none, errW_some] <;> rfl) | (simp [*, errW_none, errW_some] <;> rfl), by exact lB HB.out⟩
       ·replace c15 := Bool.eq_false_iff.mpr c15
        subst c15
        have H1 : (some false) = some r := by rw [if_neg (show ¬ (false = true) by decide)] at H; exact H
        clear H
        have H := H1
        clear H1
        obtain rfl := Option.some.inj H
        go_enter Tryd.func29, Tryd.ntmps29
        go_wp2_with (first | ((with_reducible refine O_ (N := 1) rfl ?_); (try (refine Q_ (by rfl) ?_; dsimp only)); refine N_ ?hg (N := 1) ?hd (cs := #[.int .i64 ad, .int .i64 am, .int .i64 al, .int .i64 aj, .int .i64 ai, .int .i64 ah, .int .i64 ag, .int .i64 af, .slice ax ae.length ay, .slice az ar.length aA, .slice ap ac.length aq]) (t := 28) ?hr ?_; (case hd => rfl); (case hg => rfl); (case hr => first | (go_simp; done) | (go_simp; rfl)); intro ab hg aM hbox hb; have aB := A_.mk (E_ (by exact lB HB.out) hb); have aC := A_.mk (hbox); have aD := A_.mk ((by rw [hg]; exact (G_ (by exact lB HB.out)) : w.heap.size ≤ ab)); have aE := A_.mk ((by rw [hg]; exact (G_ (by exact lB HB.out)) : w.heap.size ≤ ab)); clear HB; have HB := aB; have aa := aC; have aH := aD; have av := aE; clear aB aC aD aE; clear hb hbox hg; have cm : aM.cell? ⟨ab, 0, none⟩ = some (.int .i64 ad) := (D_ aa.out 0).trans rfl; have cn : aM.cell? ⟨ab, 1, none⟩ = some (.int .i64 am) := (D_ aa.out 1).trans rfl; have co : aM.cell? ⟨ab, 2, none⟩ = some (.int .i64 al) := (D_ aa.out 2).trans rfl; have cp : aM.cell? ⟨ab, 3, none⟩ = some (.int .i64 aj) := (D_ aa.out 3).trans rfl; have cq : aM.cell? ⟨ab, 4, none⟩ = some (.int .i64 ai) := (D_ aa.out 4).trans rfl; have cr : aM.cell? ⟨ab, 5, none⟩ = some (.int .i64 ah) := (D_ aa.out 5).trans rfl; have ct : aM.cell? ⟨ab, 6, none⟩ = some (.int .i64 ag) := (D_ aa.out 6).trans rfl; have cu : aM.cell? ⟨ab, 7, none⟩ = some (.int .i64 af) := (D_ aa.out 7).trans rfl; have cv : aM.cell? ⟨ab, 8, none⟩ = some (.slice ax ae.length ay) := (D_ aa.out 8).trans rfl; have cw : aM.cell? ⟨ab, 9, none⟩ = some (.slice az ar.length aA) := (D_ aa.out 9).trans rfl; have a8 : aM.cell? ⟨ab, 10, none⟩ = some (.slice ap ac.length aq) := (D_ aa.out 10).trans rfl; have cx := B_ aa.out 0; have cy := B_ aa.out 1; have cz := B_ aa.out 2; have cA := B_ aa.out 3; have cB := B_ aa.out 4; have cC := B_ aa.out 5; have cD := B_ aa.out 6; have cE := B_ aa.out 7; have cF := B_ aa.out 8; have cG := B_ aa.out 9; have a9 := B_ aa.out 10) | ((with_reducible refine P_ (f := 39) rfl ?_); refine R_ (some 5) rfl rfl Tryd.func39 (by kernel_rfl) rfl #[.int .i64 ad, .int .i64 16, .int .i64 16384] rfl (by (try simp only [List.map_toArray, List.map_cons, List.map_nil]); first | done | rfl | (simp only [List.length_drop, List.length_take]; rfl)) ?_; (with_reducible refine (atlas_within.calls ad 16 16384 true _ A2.out).mono ?_); rintro e w' ⟨rfl, ⟨nd, rfl⟩⟩; refine ⟨_, rfl, ?_⟩) | (go_at_call 39; (with_reducible refine (atlas_within.calls am 1 128 true _ A4.out).mono ?_); rintro e w' ⟨rfl, ⟨nd, rfl⟩⟩) | (go_at_call 39; (with_reducible refine (atlas_within.calls al 1 16 true _ A6.out).mono ?_); rintro e w' ⟨rfl, ⟨nd, rfl⟩⟩) | (go_at_call 40; (with_reducible refine (atlas_short.calls aj true _ A8.out).mono ?_); rintro e w' ⟨rfl, ⟨nd, rfl⟩⟩) | (go_at_call 40; (with_reducible refine (atlas_short.calls ai true _ A10.out).mono ?_); rintro e w' ⟨rfl, ⟨nd, rfl⟩⟩) | (go_at_call 40; (with_reducible refine (atlas_short.calls ah true _ A12.out).mono ?_); rintro e w' ⟨rfl, ⟨nd, rfl⟩⟩) | (go_at_call 39; (with_reducible refine (atlas_within.calls ag 1 1024 false _ A14.out).mono ?_); rintro e w' ⟨rfl, ⟨nd, rfl⟩⟩))
        go_ret
        exact ⟨by first | rfl | (simp [errW_none, errW_some] <;> rfl) | (simp [*, errW_none, errW_some] <;> rfl), by exact lB HB.out⟩
      ·replace c13 := Bool.eq_false_iff.mpr c13
       subst c13
       have H1 : (some false) = some r := by rw [if_neg (show ¬ (false = true) by decide)] at H; exact H
       clear H
       have H := H1
       clear H1
       obtain rfl := Option.some.inj H
       go_enter Tryd.func29, Tryd.ntmps29
       go_wp2_with (first | ((with_reducible refine O_ (N := 1) rfl ?_); (try (refine Q_ (by rfl) ?_; dsimp only)); refine N_ ?hg (N := 1) ?hd (cs := #[.int .i64 ad, .int .i64 am, .int .i64 al, .int .i64 aj, .int .i64 ai, .int .i64 ah, .int .i64 ag, .int .i64 af, .slice ax ae.length ay, .slice az ar.length aA, .slice ap ac.length aq]) (t := 28) ?hr ?_; (case hd => rfl); (case hg => rfl); (case hr => first | (go_simp; done) | (go_simp; rfl)); intro ab hg aN hbox hb; have aB := A_.mk (E_ (by exact lB HB.out) hb); have aC := A_.mk (hbox); have aD := A_.mk ((by rw [hg]; exact (G_ (by exact lB HB.out)) : w.heap.size ≤ ab)); have aE := A_.mk ((by rw [hg]; exact (G_ (by exact lB HB.out)) : w.heap.size ≤ ab)); clear HB; have HB := aB; have aa := aC; have aH := aD; have av := aE; clear aB aC aD aE; clear hb hbox hg; have cH : aN.cell? ⟨ab, 0, none⟩ = some (.int .i64 ad) := (D_ aa.out 0).trans rfl; have cI : aN.cell? ⟨ab, 1, none⟩ = some (.int .i64 am) := (D_ aa.out 1).trans rfl; have cJ : aN.cell? ⟨ab, 2, none⟩ = some (.int .i64 al) := (D_ aa.out 2).trans rfl; have cK : aN.cell? ⟨ab, 3, none⟩ = some (.int .i64 aj) := (D_ aa.out 3).trans rfl; have cL : aN.cell? ⟨ab, 4, none⟩ = some (.int .i64 ai) := (D_ aa.out 4).trans rfl; have cM : aN.cell? ⟨ab, 5, none⟩ = some (.int .i64 ah) := (D_ aa.out 5).trans rfl; have cN : aN.cell? ⟨ab, 6, none⟩ = some (.int .i64 ag) := (D_ aa.out 6).trans rfl; have cO : aN.cell? ⟨ab, 7, none⟩ = some (.int .i64 af) := (D_ aa.out 7).trans rfl; have cP : aN.cell? ⟨ab, 8, none⟩ = some (.slice ax ae.length ay) := (D_ aa.out 8).trans rfl; have cQ : aN.cell? ⟨ab, 9, none⟩ = some (.slice az ar.length aA) := (D_ aa.out 9).trans rfl; have ba : aN.cell? ⟨ab, 10, none⟩ = some (.slice ap ac.length aq) := (D_ aa.out 10).trans rfl; have cR := B_ aa.out 0; have cS := B_ aa.out 1; have cT := B_ aa.out 2; have cU := B_ aa.out 3; have cV := B_ aa.out 4; have cW := B_ aa.out 5; have cX := B_ aa.out 6; have cY := B_ aa.out 7; have cZ := B_ aa.out 8; have c0 := B_ aa.out 9; have bb := B_ aa.out 10) | ((with_reducible refine P_ (f := 39) rfl ?_); refine R_ (some 5) rfl rfl Tryd.func39 (by kernel_rfl) rfl #[.int .i64 ad, .int .i64 16, .int .i64 16384] rfl (by (try simp only [List.map_toArray, List.map_cons, List.map_nil]); first | done | rfl | (simp only [List.length_drop, List.length_take]; rfl)) ?_; (with_reducible refine (atlas_within.calls ad 16 16384 true _ A2.out).mono ?_); rintro e w' ⟨rfl, ⟨nd, rfl⟩⟩; refine ⟨_, rfl, ?_⟩) | (go_at_call 39; (with_reducible refine (atlas_within.calls am 1 128 true _ A4.out).mono ?_); rintro e w' ⟨rfl, ⟨nd, rfl⟩⟩) | (go_at_call 39; (with_reducible refine (atlas_within.calls al 1 16 true _ A6.out).mono ?_); rintro e w' ⟨rfl, ⟨nd, rfl⟩⟩) | (go_at_call 40; (with_reducible refine (atlas_short.calls aj true _ A8.out).mono ?_); rintro e w' ⟨rfl, ⟨nd, rfl⟩⟩) | (go_at_call 40; (with_reducible refine (atlas_short.calls ai true _ A10.out).mono ?_); rintro e w' ⟨rfl, ⟨nd, rfl⟩⟩) | (go_at_call 40; (with_reducible refine (atlas_short.calls ah false _ A12.out).mono ?_); rintro e w' ⟨rfl, ⟨nd, rfl⟩⟩))
       go_ret
       exact ⟨by first | rfl | (simp [errW_none, errW_some] <;> rfl) | (simp [*, errW_none, errW_some] <;> rfl), by exact lB HB.out⟩
     ·replace c11 := Bool.eq_false_iff.mpr c11
      subst c11
      have H1 : (some false) = some r := by rw [if_neg (show ¬ (false = true) by decide)] at H; exact H
      clear H
      have H := H1
      clear H1
      obtain rfl := Option.some.inj H
      go_enter Tryd.func29, Tryd.ntmps29
      go_wp2_with (first | ((with_reducible refine O_ (N := 1) rfl ?_); (try (refine Q_ (by rfl) ?_; dsimp only)); refine N_ ?hg (N := 1) ?hd (cs := #[.int .i64 ad, .int .i64 am, .int .i64 al, .int .i64 aj, .int .i64 ai, .int .i64 ah, .int .i64 ag, .int .i64 af, .slice ax ae.length ay, .slice az ar.length aA, .slice ap ac.length aq]) (t := 28) ?hr ?_; (case hd => rfl); (case hg => rfl); (case hr => first | (go_simp; done) | (go_simp; rfl)); intro ab hg aO hbox hb; have aB := A_.mk (E_ (by exact lB HB.out) hb); have aC := A_.mk (hbox); have aD := A_.mk ((by rw [hg]; exact (G_ (by exact lB HB.out)) : w.heap.size ≤ ab)); have aE := A_.mk ((by rw [hg]; exact (G_ (by exact lB HB.out)) : w.heap.size ≤ ab)); clear HB; have HB := aB; have aa := aC; have aH := aD; have av := aE; clear aB aC aD aE; clear hb hbox hg; have c1 : aO.cell? ⟨ab, 0, none⟩ = some (.int .i64 ad) := (D_ aa.out 0).trans rfl; have c2 : aO.cell? ⟨ab, 1, none⟩ = some (.int .i64 am) := (D_ aa.out 1).trans rfl; have c4 : aO.cell? ⟨ab, 2, none⟩ = some (.int .i64 al) := (D_ aa.out 2).trans rfl; have c6 : aO.cell? ⟨ab, 3, none⟩ = some (.int .i64 aj) := (D_ aa.out 3).trans rfl; have c8 : aO.cell? ⟨ab, 4, none⟩ = some (.int .i64 ai) := (D_ aa.out 4).trans rfl; have da : aO.cell? ⟨ab, 5, none⟩ = some (.int .i64 ah) := (D_ aa.out 5).trans rfl; have db : aO.cell? ⟨ab, 6, none⟩ = some (.int .i64 ag) := (D_ aa.out 6).trans rfl; have dc : aO.cell? ⟨ab, 7, none⟩ = some (.int .i64 af) := (D_ aa.out 7).trans rfl; have dd : aO.cell? ⟨ab, 8, none⟩ = some (.slice ax ae.length ay) := (D_ aa.out 8).trans rfl; have de : aO.cell? ⟨ab, 9, none⟩ = some (.slice az ar.length aA) := (D_ aa.out 9).trans rfl; have bc : aO.cell? ⟨ab, 10, none⟩ = some (.slice ap ac.length aq) := (D_ aa.out 10).trans rfl; have df := B_ aa.out 0; have dg := B_ aa.out 1; have dh := B_ aa.out 2; have di := B_ aa.out 3; have dj := B_ aa.out 4; have dk := B_ aa.out 5; have dl := B_ aa.out 6; have dm := B_ aa.out 7; have dn := B_ aa.out 8; have dp := B_ aa.out 9; have bd := B_ aa.out 10) | ((with_reducible refine P_ (f := 39) rfl ?_); refine R_ (some 5) rfl rfl Tryd.func39 (by kernel_rfl) rfl #[.int .i64 ad, .int .i64 16, .int .i64 16384] rfl (by (try simp only [List.map_toArray, List.map_cons, List.map_nil]); first | done | rfl | (simp only [List.length_drop, List.length_take]; rfl)) ?_; (with_reducible refine (atlas_within.calls ad 16 16384 true _ A2.out).mono ?_); rintro e w' ⟨rfl, ⟨nd, rfl⟩⟩; refine ⟨_, rfl, ?_⟩) | (go_at_call 39; (with_reducible refine (atlas_within.calls am 1 128 true _ A4.out).mono ?_); rintro e w' ⟨rfl, ⟨nd, rfl⟩⟩) | (go_at_call 39; (with_reducible refine (atlas_within.calls al 1 16 true _ A6.out).mono ?_); rintro e w' ⟨rfl, ⟨nd, rfl⟩⟩) | (go_at_call 40; (with_reducible refine (atlas_short.calls aj true _ A8.out).mono ?_); rintro e w' ⟨rfl, ⟨nd, rfl⟩⟩) | (go_at_call 40; (with_reducible refine (atlas_short.calls ai false _ A10.out).mono ?_); rintro e w' ⟨rfl, ⟨nd, rfl⟩⟩))
      go_ret
      exact ⟨by first | rfl | (simp [errW_none, errW_some] <;> rfl) | (simp [*, errW_none, errW_some] <;> rfl), by exact lB HB.out⟩
    ·replace c9 := Bool.eq_false_iff.mpr c9
     subst c9
     have H1 : (some false) = some r := by rw [if_neg (show ¬ (false = true) by decide)] at H; exact H
     clear H
     have H := H1
     clear H1
     obtain rfl := Option.some.inj H
     go_enter Tryd.func29, Tryd.ntmps29
     go_wp2_with (first | ((with_reducible refine O_ (N := 1) rfl ?_); (try (refine Q_ (by rfl) ?_; dsimp only)); refine N_ ?hg (N := 1) ?hd (cs := #[.int .i64 ad, .int .i64 am, .int .i64 al, .int .i64 aj, .int .i64 ai, .int .i64 ah, .int .i64 ag, .int .i64 af, .slice ax ae.length ay, .slice az ar.length aA, .slice ap ac.length aq]) (t := 28) ?hr ?_; (case hd => rfl); (case hg => rfl); (case hr => first | (go_simp; done) | (go_simp; rfl)); intro ab hg aP hbox hb; have aB := A_.mk (E_ (by exact lB HB.out) hb); have aC := A_.mk (hbox); have aD := A_.mk ((by rw [hg]; exact (G_ (by exact lB HB.out)) : w.heap.size ≤ ab)); have aE := A_.mk ((by rw [hg]; exact (G_ (by exact lB HB.out)) : w.heap.size ≤ ab)); clear HB; have HB := aB; have aa := aC; have aH := aD; have av := aE; clear aB aC aD aE; clear hb hbox hg; have dq : aP.cell? ⟨ab, 0, none⟩ = some (.int .i64 ad) := (D_ aa.out 0).trans rfl; have dr : aP.cell? ⟨ab, 1, none⟩ = some (.int .i64 am) := (D_ aa.out 1).trans rfl; have ds : aP.cell? ⟨ab, 2, none⟩ = some (.int .i64 al) := (D_ aa.out 2).trans rfl; have dt : aP.cell? ⟨ab, 3, none⟩ = some (.int .i64 aj) := (D_ aa.out 3).trans rfl; have du : aP.cell? ⟨ab, 4, none⟩ = some (.int .i64 ai) := (D_ aa.out 4).trans rfl; have dv : aP.cell? ⟨ab, 5, none⟩ = some (.int .i64 ah) := (D_ aa.out 5).trans rfl; have dw : aP.cell? ⟨ab, 6, none⟩ = some (.int .i64 ag) := (D_ aa.out 6).trans rfl; have dx : aP.cell? ⟨ab, 7, none⟩ = some (.int .i64 af) := (D_ aa.out 7).trans rfl; have dy : aP.cell? ⟨ab, 8, none⟩ = some (.slice ax ae.length ay) := (D_ aa.out 8).trans rfl; have dz : aP.cell? ⟨ab, 9, none⟩ = some (.slice az ar.length aA) := (D_ aa.out 9).trans rfl; have be : aP.cell? ⟨ab, 10, none⟩ = some (.slice ap ac.length aq) := (D_ aa.out 10).trans rfl; have dA := B_ aa.out 0; have dB := B_ aa.out 1; have dC := B_ aa.out 2; have dD := B_ aa.out 3; have dE := B_ aa.out 4; have dF := B_ aa.out 5; have dG := B_ aa.out 6; have dH := B_ aa.out 7; have dI := B_ aa.out 8; have dJ := B_ aa.out 9; have bf := B_ aa.out 10) | ((with_reducible refine P_ (f := 39) rfl ?_); refine R_ (some 5) rfl rfl Tryd.func39 (by kernel_rfl) rfl #[.int .i64 ad, .int .i64 16, .int .i64 16384] rfl (by (try simp only [List.map_toArray, List.map_cons, List.map_nil]); first | done | rfl | (simp only [List.length_drop, List.length_take]; rfl)) ?_; (with_reducible refine (atlas_within.calls ad 16 16384 true _ A2.out).mono ?_); rintro e w' ⟨rfl, ⟨nd, rfl⟩⟩; refine ⟨_, rfl, ?_⟩) | (go_at_call 39; (with_reducible refine (atlas_within.calls am 1 128 true _ A4.out).mono ?_); rintro e w' ⟨rfl, ⟨nd, rfl⟩⟩) | (go_at_call 39; (with_reducible refine (atlas_within.calls al 1 16 true _ A6.out).mono ?_); rintro e w' ⟨rfl, ⟨nd, rfl⟩⟩) | (go_at_call 40; (with_reducible refine (atlas_short.calls aj false _ A8.out).mono ?_); rintro e w' ⟨rfl, ⟨nd, rfl⟩⟩))
     go_ret
     exact ⟨by first | rfl | (simp [errW_none, errW_some] <;> rfl) | (simp [*, errW_none, errW_some] <;> rfl), by exact lB HB.out⟩
   ·replace c7 := Bool.eq_false_iff.mpr c7
    subst c7
    have H1 : (some false) = some r := by rw [if_neg (show ¬ (false = true) by decide)] at H; exact H
    clear H
    have H := H1
    clear H1
    obtain rfl := Option.some.inj H
    go_enter Tryd.func29, Tryd.ntmps29
    go_wp2_with (first | ((with_reducible refine O_ (N := 1) rfl ?_); (try (refine Q_ (by rfl) ?_; dsimp only)); refine N_ ?hg (N := 1) ?hd (cs := #[.int .i64 ad, .int .i64 am, .int .i64 al, .int .i64 aj, .int .i64 ai, .int .i64 ah, .int .i64 ag, .int .i64 af, .slice ax ae.length ay, .slice az ar.length aA, .slice ap ac.length aq]) (t := 28) ?hr ?_; (case hd => rfl); (case hg => rfl); (case hr => first | (go_simp; done) | (go_simp; rfl)); intro ab hg aQ hbox hb; have aB := A_.mk (E_ (by exact lB HB.out) hb); have aC := A_.mk (hbox); have aD := A_.mk ((by rw [hg]; exact (G_ (by exact lB HB.out)) : w.heap.size ≤ ab)); have aE := A_.mk ((by rw [hg]; exact (G_ (by exact lB HB.out)) : w.heap.size ≤ ab)); clear HB; have HB := aB; have aa := aC; have aH := aD; have av := aE; clear aB aC aD aE; clear hb hbox hg; have dK : aQ.cell? ⟨ab, 0, none⟩ = some (.int .i64 ad) := (D_ aa.out 0).trans rfl; have dL : aQ.cell? ⟨ab, 1, none⟩ = some (.int .i64 am) := (D_ aa.out 1).trans rfl; have dM : aQ.cell? ⟨ab, 2, none⟩ = some (.int .i64 al) := (D_ aa.out 2).trans rfl; have dN : aQ.cell? ⟨ab, 3, none⟩ = some (.int .i64 aj) := (D_ aa.out 3).trans rfl; have dO : aQ.cell? ⟨ab, 4, none⟩ = some (.int .i64 ai) := (D_ aa.out 4).trans rfl; have dP : aQ.cell? ⟨ab, 5, none⟩ = some (.int .i64 ah) := (D_ aa.out 5).trans rfl; have dQ : aQ.cell? ⟨ab, 6, none⟩ = some (.int .i64 ag) := (D_ aa.out 6).trans rfl; have dR : aQ.cell? ⟨ab, 7, none⟩ = some (.int .i64 af) := (D_ aa.out 7).trans rfl; have dS : aQ.cell? ⟨ab, 8, none⟩ = some (.slice ax ae.length ay) := (D_ aa.out 8).trans rfl; have dT : aQ.cell? ⟨ab, 9, none⟩ = some (.slice az ar.length aA) := (D_ aa.out 9).trans rfl; have bg : aQ.cell? ⟨ab, 10, none⟩ = some (.slice ap ac.length aq) := (D_ aa.out 10).trans rfl; have dU := B_ aa.out 0; have dV := B_ aa.out 1; have dW := B_ aa.out 2; have dX := B_ aa.out 3; have dY := B_ aa.out 4; have dZ := B_ aa.out 5; have d0 := B_ aa.out 6; have d1 := B_ aa.out 7; have d2 := B_ aa.out 8; have d3 := B_ aa.out 9; have bh := B_ aa.out 10) | ((with_reducible refine P_ (f := 39) rfl ?_); refine R_ (some 5) rfl rfl Tryd.func39 (by kernel_rfl) rfl #[.int .i64 ad, .int .i64 16, .int .i64 16384] rfl (by (try simp only [List.map_toArray, List.map_cons, List.map_nil]); first | done | rfl | (simp only [List.length_drop, List.length_take]; rfl)) ?_; (with_reducible refine (atlas_within.calls ad 16 16384 true _ A2.out).mono ?_); rintro e w' ⟨rfl, ⟨nd, rfl⟩⟩; refine ⟨_, rfl, ?_⟩) | (go_at_call 39; (with_reducible refine (atlas_within.calls am 1 128 true _ A4.out).mono ?_); rintro e w' ⟨rfl, ⟨nd, rfl⟩⟩) | (go_at_call 39; (with_reducible refine (atlas_within.calls al 1 16 false _ A6.out).mono ?_); rintro e w' ⟨rfl, ⟨nd, rfl⟩⟩))
    go_ret
    exact ⟨by first | rfl | (simp [errW_none, errW_some] <;> rfl) | (simp [*, errW_none, errW_some] <;> rfl), by exact lB HB.out⟩
  ·replace c5 := Bool.eq_false_iff.mpr c5
   subst c5
   have H1 : (some false) = some r := by rw [if_neg (show ¬ (false = true) by decide)] at H; exact H
   clear H
   have H := H1
   clear H1
   obtain rfl := Option.some.inj H
   go_enter Tryd.func29, Tryd.ntmps29
   go_wp2_with (first | ((with_reducible refine O_ (N := 1) rfl ?_); (try (refine Q_ (by rfl) ?_; dsimp only)); refine N_ ?hg (N := 1) ?hd (cs := #[.int .i64 ad, .int .i64 am, .int .i64 al, .int .i64 aj, .int .i64 ai, .int .i64 ah, .int .i64 ag, .int .i64 af, .slice ax ae.length ay, .slice az ar.length aA, .slice ap ac.length aq]) (t := 28) ?hr ?_; (case hd => rfl); (case hg => rfl); (case hr => first | (go_simp; done) | (go_simp; rfl)); intro ab hg aR hbox hb; have aB := A_.mk (E_ (by exact lB HB.out) hb); have aC := A_.mk (hbox); have aD := A_.mk ((by rw [hg]; exact (G_ (by exact lB HB.out)) : w.heap.size ≤ ab)); have aE := A_.mk ((by rw [hg]; exact (G_ (by exact lB HB.out)) : w.heap.size ≤ ab)); clear HB; have HB := aB; have aa := aC; have aH := aD; have av := aE; clear aB aC aD aE; clear hb hbox hg; have d4 : aR.cell? ⟨ab, 0, none⟩ = some (.int .i64 ad) := (D_ aa.out 0).trans rfl; have d5 : aR.cell? ⟨ab, 1, none⟩ = some (.int .i64 am) := (D_ aa.out 1).trans rfl; have d6 : aR.cell? ⟨ab, 2, none⟩ = some (.int .i64 al) := (D_ aa.out 2).trans rfl; have d7 : aR.cell? ⟨ab, 3, none⟩ = some (.int .i64 aj) := (D_ aa.out 3).trans rfl; have d8 : aR.cell? ⟨ab, 4, none⟩ = some (.int .i64 ai) := (D_ aa.out 4).trans rfl; have d9 : aR.cell? ⟨ab, 5, none⟩ = some (.int .i64 ah) := (D_ aa.out 5).trans rfl; have ea : aR.cell? ⟨ab, 6, none⟩ = some (.int .i64 ag) := (D_ aa.out 6).trans rfl; have eb : aR.cell? ⟨ab, 7, none⟩ = some (.int .i64 af) := (D_ aa.out 7).trans rfl; have ec : aR.cell? ⟨ab, 8, none⟩ = some (.slice ax ae.length ay) := (D_ aa.out 8).trans rfl; have ed : aR.cell? ⟨ab, 9, none⟩ = some (.slice az ar.length aA) := (D_ aa.out 9).trans rfl; have bi : aR.cell? ⟨ab, 10, none⟩ = some (.slice ap ac.length aq) := (D_ aa.out 10).trans rfl; have ee := B_ aa.out 0; have ef := B_ aa.out 1; have eg := B_ aa.out 2; have eh := B_ aa.out 3; have ei := B_ aa.out 4; have ej := B_ aa.out 5; have ek := B_ aa.out 6; have el := B_ aa.out 7; have em := B_ aa.out 8; have en := B_ aa.out 9; have bj := B_ aa.out 10) | ((with_reducible refine P_ (f := 39) rfl ?_); refine R_ (some 5) rfl rfl Tryd.func39 (by kernel_rfl) rfl #[.int .i64 ad, .int .i64 16, .int .i64 16384] rfl (by (try simp only [List.map_toArray, List.map_cons, List.map_nil]); first | done | rfl | (simp only [List.length_drop, List.length_take]; rfl)) ?_; (with_reducible refine (atlas_within.calls ad 16 16384 true _ A2.out).mono ?_); rintro e w' ⟨rfl, ⟨nd, rfl⟩⟩; refine ⟨_, rfl, ?_⟩) | (go_at_call 39; (with_reducible refine (atlas_within.calls am 1 128 false _ A4.out).mono ?_); rintro e w' ⟨rfl, ⟨nd, rfl⟩⟩))
   go_ret
   exact ⟨by first | rfl | (simp [errW_none, errW_some] <;> rfl) | (simp [*, errW_none, errW_some] <;> rfl), by exact lB HB.out⟩
 ·replace c3 := Bool.eq_false_iff.mpr c3
  subst c3
  have H1 : (some false) = some r := by rw [if_neg (show ¬ (false = true) by decide)] at H; exact H
  clear H
  have H := H1
  clear H1
  obtain rfl := Option.some.inj H
  go_enter Tryd.func29, Tryd.ntmps29
  go_wp2_with (first | ((with_reducible refine O_ (N := 1) rfl ?_); (try (refine Q_ (by rfl) ?_; dsimp only)); refine N_ ?hg (N := 1) ?hd (cs := #[.int .i64 ad, .int .i64 am, .int .i64 al, .int .i64 aj, .int .i64 ai, .int .i64 ah, .int .i64 ag, .int .i64 af, .slice ax ae.length ay, .slice az ar.length aA, .slice ap ac.length aq]) (t := 28) ?hr ?_; (case hd => rfl); (case hg => rfl); (case hr => first | (go_simp; done) | (go_simp; rfl)); intro ab hg aS hbox hb; have aB := A_.mk (E_ (by exact lB HB.out) hb); have aC := A_.mk (hbox); have aD := A_.mk ((by rw [hg]; exact (G_ (by exact lB HB.out)) : w.heap.size ≤ ab)); have aE := A_.mk ((by rw [hg]; exact (G_ (by exact lB HB.out)) : w.heap.size ≤ ab)); clear HB; have HB := aB; have aa := aC; have aH := aD; have av := aE; clear aB aC aD aE; clear hb hbox hg; have eo : aS.cell? ⟨ab, 0, none⟩ = some (.int .i64 ad) := (D_ aa.out 0).trans rfl; have ep : aS.cell? ⟨ab, 1, none⟩ = some (.int .i64 am) := (D_ aa.out 1).trans rfl; have eq : aS.cell? ⟨ab, 2, none⟩ = some (.int .i64 al) := (D_ aa.out 2).trans rfl; have er : aS.cell? ⟨ab, 3, none⟩ = some (.int .i64 aj) := (D_ aa.out 3).trans rfl; have es : aS.cell? ⟨ab, 4, none⟩ = some (.int .i64 ai) := (D_ aa.out 4).trans rfl; have et : aS.cell? ⟨ab, 5, none⟩ = some (.int .i64 ah) := (D_ aa.out 5).trans rfl; have eu : aS.cell? ⟨ab, 6, none⟩ = some (.int .i64 ag) := (D_ aa.out 6).trans rfl; have ev : aS.cell? ⟨ab, 7, none⟩ = some (.int .i64 af) := (D_ aa.out 7).trans rfl; have ew : aS.cell? ⟨ab, 8, none⟩ = some (.slice ax ae.length ay) := (D_ aa.out 8).trans rfl; have ex : aS.cell? ⟨ab, 9, none⟩ = some (.slice az ar.length aA) := (D_ aa.out 9).trans rfl; have bk : aS.cell? ⟨ab, 10, none⟩ = some (.slice ap ac.length aq) := (D_ aa.out 10).trans rfl; have ey := B_ aa.out 0; have ez := B_ aa.out 1; have eA := B_ aa.out 2; have eB := B_ aa.out 3; have eC := B_ aa.out 4; have eD := B_ aa.out 5; have eE := B_ aa.out 6; have eF := B_ aa.out 7; have eG := B_ aa.out 8; have eH := B_ aa.out 9; have bl := B_ aa.out 10) | ((with_reducible refine P_ (f := 39) rfl ?_); refine R_ (some 5) rfl rfl Tryd.func39 (by kernel_rfl) rfl #[.int .i64 ad, .int .i64 16, .int .i64 16384] rfl (by (try simp only [List.map_toArray, List.map_cons, List.map_nil]); first | done | rfl | (simp only [List.length_drop, List.length_take]; rfl)) ?_; (with_reducible refine (atlas_within.calls ad 16 16384 false _ A2.out).mono ?_); rintro e w' ⟨rfl, ⟨nd, rfl⟩⟩; refine ⟨_, rfl, ?_⟩))
  go_ret
  exact ⟨by first | rfl | (simp [errW_none, errW_some] <;> rfl) | (simp [*, errW_none, errW_some] <;> rfl), by exact lB HB.out⟩

/-! ### cell_within: function 46 -/
def cell_within.f (a0 : Int) (a1 : Int) (a2 : Int) : Option (Bool) := if a0 ≥ a1 then (some (decide (a0 ≤ a2))) else (some false)
set_option maxHeartbeats 8000000 in
set_option maxRecDepth 100000 in
theorem cell_within.calls (a0 : Int) (a1 : Int) (a2 : Int) (r : Bool) (w : World) (h : cell_within.f a0 a1 a2 = some r) :
  Calls Tryd.prog 46 #[.int .i64 a0, .int .i64 a1, .int .i64 a2] w fun e w' => e = .returned (.bool r) ∧ Drawn0 w w' := by
 have H : (if a0 ≥ a1 then (some (decide (a0 ≤ a2))) else (some false)) = some r := h
 clear h
 by_cases c4 : a0 ≥ a1
 ·rw [if_pos c4] at H
  have aa : decide (a1 ≤ a0) = true := decide_eq_true c4
  clear c4
  obtain rfl := Option.some.inj H
  go_enter Tryd.func46, Tryd.ntmps46
  go_wp2
  go_ret
  exact ⟨by first | rfl | (simp; done) | (simp [*]; done), by repeat (first | exact Drawn0.refl _ | apply Drawn0.step)⟩
 ·rw [if_neg c4] at H
  have aa : decide (a1 ≤ a0) = false := decide_eq_false c4
  clear c4
  obtain rfl := Option.some.inj H
  go_enter Tryd.func46, Tryd.ntmps46
  go_wp2
  go_ret
  exact ⟨by first | rfl | (simp; done) | (simp [*]; done), by repeat (first | exact Drawn0.refl _ | apply Drawn0.step)⟩

end Go.Proofs.YtjcgmjhcaaaieaaDoor.Pr
