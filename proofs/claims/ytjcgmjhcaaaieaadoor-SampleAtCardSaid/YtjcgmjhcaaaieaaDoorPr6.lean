-- printed by a program of this session's (wip/mp.sh), out of the translation; the texts of its folder 'given' are typed by hand
-- shortened (wip/short.py)
import Derived.Test.YtjcgmjhcaaaieaaDoorPr0
import Derived.Test.YtjcgmjhcaaaieaaDoorPr1
import Derived.Test.YtjcgmjhcaaaieaaDoorPr5
namespace Go.Proofs.YtjcgmjhcaaaieaaDoor.Pr
open Go.RowKit Go.Proofs.YtjcgmjhcaaaieaaDoorW.PrintWords Go.Proofs.YtjcgmjhcaaaieaaDoorW.PrintLast Go.Proofs.YtjcgmjhcaaaieaaDoorW.PrintMore
attribute [local go_sem] max2_int min2_int max_two min_two max_three min_three max_four min_four   -- for this text's walks alone
attribute [local go_sem high] eqA32
set_option linter.unusedVariables false
set_option linter.unusedSimpArgs false

attribute [local go_sem high] eqA50
/-! ### cell_May: function 41 -/
def cell_May.f (ae : Int) (ad : Int) (ac : Int) (af : Int) : Option (Bool) := if (ae == 0 && (ad == 0 && (ac == 0 && (af == 0)))) = true then (some true) else ((cell_within.f ac 1 256).bind fun ao => (if ao = true then ((cell_within.f af 1 256).bind fun an => (if an = true then ((cell_within.f ae (-1048576) 1048576).bind fun ah => (if ah = true then ((cell_within.f ad (-1048576) 1048576).bind fun ag => (some ag)) else (some false))) else (some false))) else (some false)))
set_option maxHeartbeats 8000000 in
set_option maxRecDepth 100000 in
theorem cell_May.calls (ae : Int) (ad : Int) (ac : Int) (af : Int) (r : Bool) (w : World) (h : cell_May.f ae ad ac af = some r) :
  Calls Tryd.prog 41 #[.agg #[.int .i64 ae, .int .i64 ad, .int .i64 ac, .int .i64 af]] w fun e w' => e = .returned (.bool r) ∧ Below w.heap.size w w' := by
 have bd := Tryd.underlying50
 have HB := A_.mk (Below.refl w.heap.size w)
 have H : (if (ae == 0 && (ad == 0 && (ac == 0 && (af == 0)))) = true then (some true) else ((cell_within.f ac 1 256).bind fun ao => (if ao = true then ((cell_within.f af 1 256).bind fun an => (if an = true then ((cell_within.f ae (-1048576) 1048576).bind fun ah => (if ah = true then ((cell_within.f ad (-1048576) 1048576).bind fun ag => (some ag)) else (some false))) else (some false))) else (some false)))) = some r := h
 clear h
 by_cases c2 : (ae == 0 && (ad == 0 && (ac == 0 && (af == 0)))) = true
 ·rw [if_pos c2] at H
  have aw : (ae == 0 && (ad == 0 && (ac == 0 && (af == 0)))) = true := c2
  (try (have ax : decide (ae = 0 && (ad == 0 && (ac == 0 && (af == 0)))) = true := by simpa using c2))
  (try (have ay : (ae == 0 && (ad == 0 && (ac == 0 && (af == 0)))) = true := by simpa using c2))
  clear c2
  obtain rfl := Option.some.inj H
  go_enter Tryd.func41, Tryd.ntmps41
  go_wp2_with (first | ((with_reducible refine O_ (N := 1) rfl ?_); refine N_ ?hg (N := 1) ?hd (cs := #[.int .i64 ae, .int .i64 ad, .int .i64 ac, .int .i64 af]) (t := 50) ?hr ?_; (case hd => rfl); (case hg => rfl); (case hr => first | (go_simp; done) | (go_simp; rfl)); intro ab hg w3 hbox hb; have aj := A_.mk (E_ (by exact lB HB.out) hb); have ak := A_.mk (hbox); have al := A_.mk ((by rw [hg]; exact (G_ (by exact lB HB.out)) : w.heap.size ≤ ab)); have am := A_.mk ((by rw [hg]; exact (G_ (by exact lB HB.out)) : w.heap.size ≤ ab)); clear HB; have HB := aj; have aa := ak; have ap := al; have ai := am; clear aj ak al am; clear hb hbox hg; have a5 : w3.cell? ⟨ab, 0, none⟩ = some (.int .i64 ae) := (D_ aa.out 0).trans rfl; have a6 : w3.cell? ⟨ab, 1, none⟩ = some (.int .i64 ad) := (D_ aa.out 1).trans rfl; have a7 : w3.cell? ⟨ab, 2, none⟩ = some (.int .i64 ac) := (D_ aa.out 2).trans rfl; have a8 : w3.cell? ⟨ab, 3, none⟩ = some (.int .i64 af) := (D_ aa.out 3).trans rfl; have a9 := B_ aa.out 0; have ba := B_ aa.out 1; have bb := B_ aa.out 2; have bc := B_ aa.out 3))
  go_ret
  exact ⟨by first | rfl | (simp [errW_none, errW_some] <;> rfl) | (simp [*, errW_none, errW_some] <;> rfl), by exact lB HB.out⟩
 ·rw [if_neg c2] at H
  have aw : (ae == 0 && (ad == 0 && (ac == 0 && (af == 0)))) = false := by simpa using c2
  (try (have ax : decide (ae = 0 && (ad == 0 && (ac == 0 && (af == 0)))) = false := by simpa using c2))
  (try (have ay : (ae == 0 && (ad == 0 && (ac == 0 && (af == 0)))) = false := by simpa using c2))
  (try (have be : ¬ (ae = 0 && (ad == 0 && (ac == 0 && (af == 0)))) := by simpa using c2))
  clear c2
  replace H := Option.bind_eq_some_iff.mp H
  obtain ⟨ao, A50, H⟩ := H
  replace H : (if ao = true then ((cell_within.f af 1 256).bind fun an => (if an = true then ((cell_within.f ae (-1048576) 1048576).bind fun ah => (if ah = true then ((cell_within.f ad (-1048576) 1048576).bind fun ag => (some ag)) else (some false))) else (some false))) else (some false)) = some r := H
  have A5 := A_.mk A50
  clear A50
  by_cases c6 : ao = true
  ·subst c6
   have H1 : ((cell_within.f af 1 256).bind fun an => (if an = true then ((cell_within.f ae (-1048576) 1048576).bind fun ah => (if ah = true then ((cell_within.f ad (-1048576) 1048576).bind fun ag => (some ag)) else (some false))) else (some false))) = some r := by rw [if_pos rfl] at H; exact H
   clear H
   have H := H1
   clear H1
   replace H := Option.bind_eq_some_iff.mp H
   obtain ⟨an, A70, H⟩ := H
   replace H : (if an = true then ((cell_within.f ae (-1048576) 1048576).bind fun ah => (if ah = true then ((cell_within.f ad (-1048576) 1048576).bind fun ag => (some ag)) else (some false))) else (some false)) = some r := H
   have A7 := A_.mk A70
   clear A70
   by_cases c8 : an = true
   ·subst c8
    have H1 : ((cell_within.f ae (-1048576) 1048576).bind fun ah => (if ah = true then ((cell_within.f ad (-1048576) 1048576).bind fun ag => (some ag)) else (some false))) = some r := by rw [if_pos rfl] at H; exact H
    clear H
    have H := H1
    clear H1
    replace H := Option.bind_eq_some_iff.mp H
    obtain ⟨ah, A90, H⟩ := H
    replace H : (if ah = true then ((cell_within.f ad (-1048576) 1048576).bind fun ag => (some ag)) else (some false)) = some r := H
    have A9 := A_.mk A90
    clear A90
    by_cases c10 : ah = true
    ·subst c10
     have H1 : ((cell_within.f ad (-1048576) 1048576).bind fun ag => (some ag)) = some r := by rw [if_pos rfl] at H; exact H
     clear H
     have H := H1
     clear H1
     replace H := Option.bind_eq_some_iff.mp H
     obtain ⟨ag, A110, H⟩ := H
     replace H : (some ag) = some r := H
     have A11 := A_.mk A110
     clear A110
     obtain rfl := Option.some.inj H
     go_enter Tryd.func41, Tryd.ntmps41
     go_wp2_with (first | ((with_reducible refine O_ (N := 1) rfl ?_); refine N_ ?hg (N := 1) ?hd (cs := #[.int .i64 ae, .int .i64 ad, .int .i64 ac, .int .i64 af]) (t := 50) ?hr ?_; (case hd => rfl); (case hg => rfl); (case hr => first | (go_simp; done) | (go_simp; rfl)); intro ab hg aq hbox hb; have aj := A_.mk (E_ (by exact lB HB.out) hb); have ak := A_.mk (hbox); have al := A_.mk ((by rw [hg]; exact (G_ (by exact lB HB.out)) : w.heap.size ≤ ab)); have am := A_.mk ((by rw [hg]; exact (G_ (by exact lB HB.out)) : w.heap.size ≤ ab)); clear HB; have HB := aj; have aa := ak; have ap := al; have ai := am; clear aj ak al am; clear hb hbox hg; have az : aq.cell? ⟨ab, 0, none⟩ = some (.int .i64 ae) := (D_ aa.out 0).trans rfl; have aA : aq.cell? ⟨ab, 1, none⟩ = some (.int .i64 ad) := (D_ aa.out 1).trans rfl; have aB : aq.cell? ⟨ab, 2, none⟩ = some (.int .i64 ac) := (D_ aa.out 2).trans rfl; have aC : aq.cell? ⟨ab, 3, none⟩ = some (.int .i64 af) := (D_ aa.out 3).trans rfl; have aD := B_ aa.out 0; have aE := B_ aa.out 1; have aF := B_ aa.out 2; have aG := B_ aa.out 3) | ((with_reducible refine P_ (f := 46) rfl ?_); refine R_ (some 8) rfl rfl Tryd.func46 (by kernel_rfl) rfl #[.int .i64 ac, .int .i64 1, .int .i64 256] rfl (by (try simp only [List.map_toArray, List.map_cons, List.map_nil]); first | done | rfl | (simp only [List.length_drop, List.length_take]; rfl)) ?_; (with_reducible refine (cell_within.calls ac 1 256 true _ A5.out).mono ?_); rintro e w' ⟨rfl, ⟨nd, rfl⟩⟩; refine ⟨_, rfl, ?_⟩) | (go_at_call 46; (with_reducible refine (cell_within.calls af 1 256 true _ A7.out).mono ?_); rintro e w' ⟨rfl, ⟨nd, rfl⟩⟩) | (go_at_call 46; (with_reducible refine (cell_within.calls ae (-1048576) 1048576 true _ A9.out).mono ?_); rintro e w' ⟨rfl, ⟨nd, rfl⟩⟩) | (go_at_call 46; (with_reducible refine (cell_within.calls ad (-1048576) 1048576 ag _ A11.out).mono ?_); rintro e w' ⟨rfl, ⟨nd, rfl⟩⟩))
     go_ret
     exact ⟨by first | rfl | (simp [errW_none, errW_some] <;> rfl) | (simp [*, errW_none, errW_some] <;> rfl), by exact lB HB.out⟩
    ·replace c10 := Bool.eq_false_iff.mpr c10
     subst c10
     have H1 : (some false) = some r := by rw [if_neg (show ¬ (false = true) by decide)] at H; exact H
     clear H
     have H := H1
     clear H1
     obtain rfl := Option.some.inj H
     go_enter Tryd.func41, Tryd.ntmps41
     go_wp2_with (first | ((with_reducible refine O_ (N := 1) rfl ?_); refine N_ ?hg (N := 1) ?hd (cs := #[.int .i64 ae, .int .i64 ad, .int .i64 ac, .int .i64 af]) (t := 50) ?hr ?_; (case hd => rfl); (case hg => rfl); (case hr => first | (go_simp; done) | (go_simp; rfl)); intro ab hg ar hbox hb; have aj := A_.mk (E_ (by exact lB HB.out) hb); have ak := A_.mk (hbox); have al := A_.mk ((by rw [hg]; exact (G_ (by exact lB HB.out)) : w.heap.size ≤ ab)); have am := A_.mk ((by rw [hg]; exact (G_ (by exact lB HB.out)) : w.heap.size ≤ ab)); clear HB; have HB := aj; have aa := ak; have ap := al; have ai := am; clear aj ak al am; clear hb hbox hg; have aH : ar.cell? ⟨ab, 0, none⟩ = some (.int .i64 ae) := (D_ aa.out 0).trans rfl; have aI : ar.cell? ⟨ab, 1, none⟩ = some (.int .i64 ad) := (D_ aa.out 1).trans rfl; have aJ : ar.cell? ⟨ab, 2, none⟩ = some (.int .i64 ac) := (D_ aa.out 2).trans rfl; have aK : ar.cell? ⟨ab, 3, none⟩ = some (.int .i64 af) := (D_ aa.out 3).trans rfl; have aL := B_ aa.out 0; have aM := B_ aa.out 1; have aN := B_ aa.out 2; have aO := B_ aa.out 3) | ((with_reducible refine P_ (f := 46) rfl ?_); refine R_ (some 8) rfl rfl Tryd.func46 (by kernel_rfl) rfl #[.int .i64 ac, .int .i64 1, .int .i64 256] rfl (by (try simp only [List.map_toArray, List.map_cons, List.map_nil]); first | done | rfl | (simp only [List.length_drop, List.length_take]; rfl)) ?_; (with_reducible refine (cell_within.calls ac 1 256 true _ A5.out).mono ?_); rintro e w' ⟨rfl, ⟨nd, rfl⟩⟩; refine ⟨_, rfl, ?_⟩) | (go_at_call 46; (with_reducible refine (cell_within.calls af 1 256 true _ A7.out).mono ?_); rintro e w' ⟨rfl, ⟨nd, rfl⟩⟩) | (go_at_call 46; (with_reducible refine (cell_within.calls ae (-1048576) 1048576 false _ A9.out).mono ?_); rintro e w' ⟨rfl, ⟨nd, rfl⟩⟩))
     go_ret
     exact ⟨by first | rfl | (simp [errW_none, errW_some] <;> rfl) | (simp [*, errW_none, errW_some] <;> rfl), by exact lB HB.out⟩
   ·replace c8 := Bool.eq_false_iff.mpr c8
    subst c8
    have H1 : (some false) = some r := by rw [if_neg (show ¬ (false = true) by decide)] at H; exact H
    clear H
    have H := H1
    clear H1
    obtain rfl := Option.some.inj H
    go_enter Tryd.func41, Tryd.ntmps41
    go_wp2_with (first | ((with_reducible refine O_ (N := 1) rfl ?_); refine N_ ?hg (N := 1) ?hd (cs := #[.int .i64 ae, .int .i64 ad, .int .i64 ac, .int .i64 af]) (t := 50) ?hr ?_; (case hd => rfl); (case hg => rfl); (case hr => first | (go_simp; done) | (go_simp; rfl)); intro ab hg au hbox hb; have aj := A_.mk (E_ (by exact lB HB.out) hb); have ak := A_.mk (hbox); have al := A_.mk ((by rw [hg]; exact (G_ (by exact lB HB.out)) : w.heap.size ≤ ab)); have am := A_.mk ((by rw [hg]; exact (G_ (by exact lB HB.out)) : w.heap.size ≤ ab)); clear HB; have HB := aj; have aa := ak; have ap := al; have ai := am; clear aj ak al am; clear hb hbox hg; have aP : au.cell? ⟨ab, 0, none⟩ = some (.int .i64 ae) := (D_ aa.out 0).trans rfl; have aQ : au.cell? ⟨ab, 1, none⟩ = some (.int .i64 ad) := (D_ aa.out 1).trans rfl; have aR : au.cell? ⟨ab, 2, none⟩ = some (.int .i64 ac) := (D_ aa.out 2).trans rfl; have aS : au.cell? ⟨ab, 3, none⟩ = some (.int .i64 af) := (D_ aa.out 3).trans rfl; have aT := B_ aa.out 0; have aU := B_ aa.out 1; have aV := B_ aa.out 2; have aW := B_ aa.out 3) | ((with_reducible refine P_ (f := 46) rfl ?_); refine R_ (some 8) rfl rfl Tryd.func46 (by kernel_rfl) rfl #[.int .i64 ac, .int .i64 1, .int .i64 256] rfl (by (try simp only [List.map_toArray, List.map_cons, List.map_nil]); first | done | rfl | (simp only [List.length_drop, List.length_take]; rfl)) ?_; (with_reducible refine (cell_within.calls ac 1 256 true _ A5.out).mono ?_); rintro e w' ⟨rfl, ⟨nd, rfl⟩⟩; refine ⟨_, rfl, ?_⟩) | (go_at_call 46; (with_reducible refine (cell_within.calls af 1 256 false _ A7.out).mono ?_); rintro e w' ⟨rfl, ⟨nd, rfl⟩⟩))
    go_ret
    exact ⟨by first | rfl | (simp [errW_none, errW_some] <;> rfl) | (simp [*, errW_none, errW_some] <;> rfl), by exact lB HB.out⟩
  ·replace c6 := Bool.eq_false_iff.mpr c6
   subst c6
   have H1 : (some false) = some r := by rw [if_neg (show ¬ (false = true) by decide)] at H; exact H
   clear H
   have H := H1
   clear H1
   obtain rfl := Option.some.inj H
   go_enter Tryd.func41, Tryd.ntmps41
   go_wp2_with (first | ((with_reducible refine O_ (N := 1) rfl ?_); refine N_ ?hg (N := 1) ?hd (cs := #[.int .i64 ae, .int .i64 ad, .int .i64 ac, .int .i64 af]) (t := 50) ?hr ?_; (case hd => rfl); (case hg => rfl); (case hr => first | (go_simp; done) | (go_simp; rfl)); intro ab hg av hbox hb; have aj := A_.mk (E_ (by exact lB HB.out) hb); have ak := A_.mk (hbox); have al := A_.mk ((by rw [hg]; exact (G_ (by exact lB HB.out)) : w.heap.size ≤ ab)); have am := A_.mk ((by rw [hg]; exact (G_ (by exact lB HB.out)) : w.heap.size ≤ ab)); clear HB; have HB := aj; have aa := ak; have ap := al; have ai := am; clear aj ak al am; clear hb hbox hg; have aX : av.cell? ⟨ab, 0, none⟩ = some (.int .i64 ae) := (D_ aa.out 0).trans rfl; have aY : av.cell? ⟨ab, 1, none⟩ = some (.int .i64 ad) := (D_ aa.out 1).trans rfl; have aZ : av.cell? ⟨ab, 2, none⟩ = some (.int .i64 ac) := (D_ aa.out 2).trans rfl; have a0 : av.cell? ⟨ab, 3, none⟩ = some (.int .i64 af) := (D_ aa.out 3).trans rfl; have a1 := B_ aa.out 0; have a2 := B_ aa.out 1; have a3 := B_ aa.out 2; have a4 := B_ aa.out 3) | ((with_reducible refine P_ (f := 46) rfl ?_); refine R_ (some 8) rfl rfl Tryd.func46 (by kernel_rfl) rfl #[.int .i64 ac, .int .i64 1, .int .i64 256] rfl (by (try simp only [List.map_toArray, List.map_cons, List.map_nil]); first | done | rfl | (simp only [List.length_drop, List.length_take]; rfl)) ?_; (with_reducible refine (cell_within.calls ac 1 256 false _ A5.out).mono ?_); rintro e w' ⟨rfl, ⟨nd, rfl⟩⟩; refine ⟨_, rfl, ?_⟩))
   go_ret
   exact ⟨by first | rfl | (simp [errW_none, errW_some] <;> rfl) | (simp [*, errW_none, errW_some] <;> rfl), by exact lB HB.out⟩

end Go.Proofs.YtjcgmjhcaaaieaaDoor.Pr
