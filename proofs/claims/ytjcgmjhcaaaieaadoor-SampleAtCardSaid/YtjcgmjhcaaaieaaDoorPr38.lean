-- printed by a program of this session's (wip/mp.sh), out of the translation; the texts of its folder 'given' are typed by hand
-- shortened (wip/short.py)
import Derived.Test.YtjcgmjhcaaaieaaDoorPr0
namespace Go.Proofs.YtjcgmjhcaaaieaaDoor.Pr
open Go.RowKit Go.Proofs.YtjcgmjhcaaaieaaDoorW.PrintWords Go.Proofs.YtjcgmjhcaaaieaaDoorW.PrintLast Go.Proofs.YtjcgmjhcaaaieaaDoorW.PrintMore
attribute [local go_sem] max2_int min2_int max_two min_two max_three min_three max_four min_four   -- for this text's walks alone
attribute [local go_sem high] eqA32
set_option linter.unusedVariables false
set_option linter.unusedSimpArgs false

/-! ### pochoirref27_Median: function 21 -/
def pochoirref27_Median.f (a0 : Int) (a1 : Int) (a2 : Int) : Option (Int) := some (wrap64 ((wrap64 ((wrap64 ((wrap64 (a0 + a1)) + a2)) - (mn (mn a0 a1) a2))) - (mx (mx a0 a1) a2)))
set_option maxHeartbeats 8000000 in
set_option maxRecDepth 100000 in
theorem pochoirref27_Median.calls (a0 : Int) (a1 : Int) (a2 : Int) (r : Int) (w : World) (h : pochoirref27_Median.f a0 a1 a2 = some r) :
  Calls Tryd.prog 21 #[.int .i64 a0, .int .i64 a1, .int .i64 a2] w fun e w' => e = .returned (.int .i64 r) ∧ Below w.heap.size w w' := by
 have HB := A_.mk (Below.refl w.heap.size w)
 have H : (some (wrap64 ((wrap64 ((wrap64 ((wrap64 (a0 + a1)) + a2)) - (mn (mn a0 a1) a2))) - (mx (mx a0 a1) a2)))) = some r := h
 clear h
 obtain ⟨ae, aa⟩ : ∃ j_ : Int, (mn a0 a1) = j_ := ⟨_, rfl⟩
 replace H : (some (wrap64 ((wrap64 ((wrap64 ((wrap64 (a0 + a1)) + a2)) - (mn (ae) a2))) - (mx (mx a0 a1) a2)))) = some r := by first | (rw [aa] at H; exact H) | (simp only [aa] at H ⊢; exact H)
 have ai : (if a1 < a0 then a1 else a0) = ae := aa
 obtain ⟨ag, ab⟩ : ∃ j_ : Int, (mn (ae) a2) = j_ := ⟨_, rfl⟩
 replace H : (some (wrap64 ((wrap64 ((wrap64 ((wrap64 (a0 + a1)) + a2)) - (ag))) - (mx (mx a0 a1) a2)))) = some r := by first | (rw [ab] at H; exact H) | (simp only [ab] at H ⊢; exact H)
 have aj : (if a2 < (ae) then a2 else (ae)) = ag := ab
 obtain ⟨af, ac⟩ : ∃ j_ : Int, (mx a0 a1) = j_ := ⟨_, rfl⟩
 replace H : (some (wrap64 ((wrap64 ((wrap64 ((wrap64 (a0 + a1)) + a2)) - (ag))) - (mx (af) a2)))) = some r := by first | (rw [ac] at H; exact H) | (simp only [ac] at H ⊢; exact H)
 have ak : (if a0 < a1 then a1 else a0) = af := ac
 obtain ⟨ah, ad⟩ : ∃ j_ : Int, (mx (af) a2) = j_ := ⟨_, rfl⟩
 replace H : (some (wrap64 ((wrap64 ((wrap64 ((wrap64 (a0 + a1)) + a2)) - (ag))) - (ah)))) = some r := by first | (rw [ad] at H; exact H) | (simp only [ad] at H ⊢; exact H)
 have al : (if (af) < a2 then a2 else (af)) = ah := ad
 obtain rfl := Option.some.inj H
 go_enter Tryd.func21, Tryd.ntmps21
 go_wp2
 go_ret
 exact ⟨by first | rfl | (simp [errW_none, errW_some] <;> rfl) | (simp only [← aa, ← ab, ← ac, ← ad]; first | rfl | (simp [errW_none, errW_some] <;> rfl)) | (simp [*, errW_none, errW_some] <;> rfl), by exact lB HB.out⟩

/-! ### pochoirref32_Median: function 11 -/
def pochoirref32_Median.f (af : Int) (ab : Int) (ac : Int) (ad : Int) : Option (Int) := (pochoirref27_Median.f ab ac ad).bind fun ag => (some ag)
set_option maxHeartbeats 8000000 in
set_option maxRecDepth 100000 in
theorem pochoirref32_Median.calls (af : Int) (ab : Int) (ac : Int) (ad : Int) (r : Int) (w : World) (h : pochoirref32_Median.f af ab ac ad = some r) :
  Calls Tryd.prog 11 #[.agg #[.int .i64 af, .int .i64 ab, .int .i64 ac, .int .i64 ad]] w fun e w' => e = .returned (.int .i64 r) ∧ Below w.heap.size w w' := by
 have ax := Tryd.underlying32
 have HB := A_.mk (Below.refl w.heap.size w)
 have H : ((pochoirref27_Median.f ab ac ad).bind fun ag => (some ag)) = some r := h
 clear h
 replace H := Option.bind_eq_some_iff.mp H
 obtain ⟨ag, A20, H⟩ := H
 replace H : (some ag) = some r := H
 have A2 := A_.mk A20
 clear A20
 obtain rfl := Option.some.inj H
 go_enter Tryd.func11, Tryd.ntmps11
 go_wp2_with (first | ((with_reducible refine O_ (N := 1) rfl ?_); refine N_ ?hg (N := 1) ?hd (cs := #[.int .i64 af, .int .i64 ab, .int .i64 ac, .int .i64 ad]) (t := 32) ?hr ?_; (case hd => rfl); (case hg => rfl); (case hr => first | (go_simp; done) | (go_simp; rfl)); intro ae hg w3 hbox hb; have ah := A_.mk (E_ (by exact lB HB.out) hb); have ai := A_.mk (hbox); have ak := A_.mk ((by rw [hg]; exact (G_ (by exact lB HB.out)) : w.heap.size ≤ ae)); have al := A_.mk ((by rw [hg]; exact (G_ (by exact lB HB.out)) : w.heap.size ≤ ae)); clear HB; have HB := ah; have aa := ai; have aw := ak; have aj := al; clear ah ai ak al; clear hb hbox hg; have am : w3.cell? ⟨ae, 0, none⟩ = some (.int .i64 af) := (D_ aa.out 0).trans rfl; have an : w3.cell? ⟨ae, 1, none⟩ = some (.int .i64 ab) := (D_ aa.out 1).trans rfl; have ao : w3.cell? ⟨ae, 2, none⟩ = some (.int .i64 ac) := (D_ aa.out 2).trans rfl; have ap : w3.cell? ⟨ae, 3, none⟩ = some (.int .i64 ad) := (D_ aa.out 3).trans rfl; have aq := B_ aa.out 0; have ar := B_ aa.out 1; have au := B_ aa.out 2; have av := B_ aa.out 3) | ((with_reducible refine P_ (f := 21) rfl ?_); refine R_ (some 9) rfl rfl Tryd.func21 (by kernel_rfl) rfl #[.int .i64 ab, .int .i64 ac, .int .i64 ad] rfl (by (try simp only [List.map_toArray, List.map_cons, List.map_nil]); first | done | rfl | (simp only [List.length_drop, List.length_take]; rfl)) ?_; (with_reducible refine (pochoirref27_Median.calls ab ac ad ag _ A2.out).mono ?_); rintro e w5 ⟨rfl, hb⟩; refine ⟨_, rfl, ?_⟩; have ah := A_.mk (F_ (g := ae) (o := .cells #[.int .i64 af, .int .i64 ab, .int .i64 ac, .int .i64 ad] 32 (0, 0)) (by refine kB ?_; exact aa.out) hb); have ai := A_.mk (E_ (by exact lB HB.out) hb); clear aa; clear HB; have aa := ah; have HB := ai; clear ah ai; (try clear hb); (try clear ay); (try clear hk); (try clear hi)))
 go_ret
 exact ⟨by first | rfl | (simp [errW_none, errW_some] <;> rfl) | (simp [*, errW_none, errW_some] <;> rfl), by exact lB HB.out⟩

end Go.Proofs.YtjcgmjhcaaaieaaDoor.Pr
