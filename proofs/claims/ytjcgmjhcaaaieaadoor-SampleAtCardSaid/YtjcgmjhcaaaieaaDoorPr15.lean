-- printed by a program of this session's (wip/mp.sh), out of the translation; the texts of its folder 'given' are typed by hand
-- shortened (wip/short.py)
import Derived.Test.YtjcgmjhcaaaieaaDoorPr0
namespace Go.Proofs.YtjcgmjhcaaaieaaDoor.Pr
open Go.RowKit Go.Proofs.YtjcgmjhcaaaieaaDoorW.PrintWords Go.Proofs.YtjcgmjhcaaaieaaDoorW.PrintLast Go.Proofs.YtjcgmjhcaaaieaaDoorW.PrintMore
attribute [local go_sem] max2_int min2_int max_two min_two max_three min_three max_four min_four   -- for this text's walks alone
attribute [local go_sem high] eqA32
set_option linter.unusedVariables false
set_option linter.unusedSimpArgs false

/-! ### sample_Median: function 10 -/
def sample_Median.f (af : Int) (aa : Int) (ab : Int) (ac : Int) : Option (Int) := some (mx (mn aa ab) (mn (mx aa ab) ac))
set_option maxHeartbeats 8000000 in
set_option maxRecDepth 100000 in
theorem sample_Median.calls (af : Int) (aa : Int) (ab : Int) (ac : Int) (r : Int) (w : World) (h : sample_Median.f af aa ab ac = some r) :
  Calls Tryd.prog 10 #[.agg #[.int .i64 af, .int .i64 aa, .int .i64 ab, .int .i64 ac]] w fun e w' => e = .returned (.int .i64 r) ∧ Below w.heap.size w w' := by
 have aI := Tryd.underlying32
 have HB := A_.mk (Below.refl w.heap.size w)
 have H : (some (mx (mn aa ab) (mn (mx aa ab) ac))) = some r := h
 clear h
 obtain ⟨ag, ah⟩ : ∃ j_ : Int, (mn aa ab) = j_ := ⟨_, rfl⟩
 replace H : (some (mx (ag) (mn (mx aa ab) ac))) = some r := by first | (rw [ah] at H; exact H) | (simp only [ah] at H ⊢; exact H)
 have aD : (if ab < aa then ab else aa) = ag := ah
 obtain ⟨al, ai⟩ : ∃ j_ : Int, (mx aa ab) = j_ := ⟨_, rfl⟩
 replace H : (some (mx (ag) (mn (al) ac))) = some r := by first | (rw [ai] at H; exact H) | (simp only [ai] at H ⊢; exact H)
 have aE : (if aa < ab then ab else aa) = al := ai
 obtain ⟨am, aj⟩ : ∃ j_ : Int, (mn (al) ac) = j_ := ⟨_, rfl⟩
 replace H : (some (mx (ag) (am))) = some r := by first | (rw [aj] at H; exact H) | (simp only [aj] at H ⊢; exact H)
 have aF : (if ac < (al) then ac else (al)) = am := aj
 obtain ⟨ao, ak⟩ : ∃ j_ : Int, (mx (ag) (am)) = j_ := ⟨_, rfl⟩
 replace H : (some ao) = some r := by first | (rw [ak] at H; exact H) | (simp only [ak] at H ⊢; exact H)
 have aG : (if (ag) < (am) then (am) else (ag)) = ao := ak
 obtain rfl := Option.some.inj H
 go_enter Tryd.func10, Tryd.ntmps10
 go_wp2_with (first | ((with_reducible refine O_ (N := 1) rfl ?_); refine N_ ?hg (N := 1) ?hd (cs := #[.int .i64 af, .int .i64 aa, .int .i64 ab, .int .i64 ac]) (t := 32) ?hr ?_; (case hd => rfl); (case hg => rfl); (case hr => first | (go_simp; done) | (go_simp; rfl)); intro ae hg w6 hbox hb; have ap := A_.mk (E_ (by exact lB HB.out) hb); have aq := A_.mk (hbox); have ar := A_.mk ((by rw [hg]; exact (G_ (by exact lB HB.out)) : w.heap.size ≤ ae)); have au := A_.mk ((by rw [hg]; exact (G_ (by exact lB HB.out)) : w.heap.size ≤ ae)); clear HB; have HB := ap; have ad := aq; have aH := ar; have an := au; clear ap aq ar au; clear hb hbox hg; have av : w6.cell? ⟨ae, 0, none⟩ = some (.int .i64 af) := (D_ ad.out 0).trans rfl; have aw : w6.cell? ⟨ae, 1, none⟩ = some (.int .i64 aa) := (D_ ad.out 1).trans rfl; have ax : w6.cell? ⟨ae, 2, none⟩ = some (.int .i64 ab) := (D_ ad.out 2).trans rfl; have ay : w6.cell? ⟨ae, 3, none⟩ = some (.int .i64 ac) := (D_ ad.out 3).trans rfl; have az := B_ ad.out 0; have aA := B_ ad.out 1; have aB := B_ ad.out 2; have aC := B_ ad.out 3))
 go_ret
 exact ⟨by first | rfl | (simp [errW_none, errW_some] <;> rfl) | (simp only [← ah, ← ai, ← aj, ← ak]; first | rfl | (simp [errW_none, errW_some] <;> rfl)) | (simp [*, errW_none, errW_some] <;> rfl), by exact lB HB.out⟩

end Go.Proofs.YtjcgmjhcaaaieaaDoor.Pr
