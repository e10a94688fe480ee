-- printed by a program of this session's (wip/mp.sh), out of the translation; the texts of its folder 'given' are typed by hand
-- shortened (wip/short.py)
import Derived.Test.YtjcgmjhcaaaieaaDoorPr0
import Derived.Test.YtjcgmjhcaaaieaaDoorPr11
import Derived.Test.YtjcgmjhcaaaieaaDoorPr12
namespace Go.Proofs.YtjcgmjhcaaaieaaDoor.Pr
open Go.RowKit Go.Proofs.YtjcgmjhcaaaieaaDoorW.PrintWords Go.Proofs.YtjcgmjhcaaaieaaDoorW.PrintLast Go.Proofs.YtjcgmjhcaaaieaaDoorW.PrintMore
attribute [local go_sem] max2_int min2_int max_two min_two max_three min_three max_four min_four   -- for this text's walks alone
attribute [local go_sem high] eqA32
set_option linter.unusedVariables false
set_option linter.unusedSimpArgs false

/-! ### sample_sampler_row: function 18 -/
def sample_sampler_row.f (ai : ByteArray) (aj : Int) (ak : Int) (al : Int) (am : Int) (a1 : Int) (a2 : Int) (a3 : Int) : Option (Int × Int × Int × Int) := (sample_sampler_texel.f ai aj ak al am a1 a2).bind fun ao => (if a3 = 0 then ((sample_mixed.f ao.1 ao.2.1 ao.2.2.1 ao.2.2.2 ao.1 ao.2.1 ao.2.2.1 ao.2.2.2 0).bind fun aD => (some (aD.1, aD.2.1, aD.2.2.1, aD.2.2.2))) else ((sample_sampler_texel.f ai aj ak al am (wrap64 (a1 + 1)) a2).bind fun aE => ((sample_mixed.f ao.1 ao.2.1 ao.2.2.1 ao.2.2.2 aE.1 aE.2.1 aE.2.2.1 aE.2.2.2 a3).bind fun az => (some (az.1, az.2.1, az.2.2.1, az.2.2.2)))))
def sample_sampler_row.T4 : Bool × List (List Nat × List Nat) := (true, [([], []), ([], []), ([], []), ([2], [2]), ([], []), ([1, 3, 4], [1, 3, 4]), ([], []), ([0, 5, 6, 5], [0, 5, 6]), ([7, 7, 0, 1, 2, 3, 4, 5, 6, 7], [7])])
def sample_sampler_row.B4 : List Nat := [0, 0, 0, 4, 0, 30, 0, 127, 255]
theorem sample_sampler_row.tab4 : rtab .any (opsOf Tryd.f18 4) = sample_sampler_row.T4 := by kernel_rfl
theorem sample_sampler_row.bits4 : waitsOk sample_sampler_row.T4.2 sample_sampler_row.B4 = true := by kernel_rfl
set_option maxHeartbeats 8000000 in
set_option maxRecDepth 100000 in
theorem sample_sampler_row.calls (ai : ByteArray) (aj : Int) (ak : Int) (al : Int) (am : Int) (a1 : Int) (a2 : Int) (a3 : Int) (r1 : Int) (r2 : Int) (r3 : Int) (r4 : Int) (w : World) (h : sample_sampler_row.f ai aj ak al am a1 a2 a3 = some (r1, r2, r3, r4)) :
  Calls Tryd.prog 18 #[.agg #[.string ai, .int .i64 aj, .int .i64 ak, .int .i64 al, .int .i64 am], .int .i64 a1, .int .i64 a2, .int .i64 a3] w fun e w' => e = .returned (.agg #[.int .i64 r1, .int .i64 r2, .int .i64 r3, .int .i64 r4]) ∧ Below w.heap.size w w' := by
 have cA := Tryd.underlying62
 have cB := Tryd.underlying32
 have HB := A_.mk (Below.refl w.heap.size w)
 have H : ((sample_sampler_texel.f ai aj ak al am a1 a2).bind fun ao => (if a3 = 0 then ((sample_mixed.f ao.1 ao.2.1 ao.2.2.1 ao.2.2.2 ao.1 ao.2.1 ao.2.2.1 ao.2.2.2 0).bind fun aD => (some (aD.1, aD.2.1, aD.2.2.1, aD.2.2.2))) else ((sample_sampler_texel.f ai aj ak al am (wrap64 (a1 + 1)) a2).bind fun aE => ((sample_mixed.f ao.1 ao.2.1 ao.2.2.1 ao.2.2.2 aE.1 aE.2.1 aE.2.2.1 aE.2.2.2 a3).bind fun az => (some (az.1, az.2.1, az.2.2.1, az.2.2.2)))))) = some (r1, r2, r3, r4) := h
 clear h
 replace H := Option.bind_eq_some_iff.mp H
 obtain ⟨⟨au, aw, aA, aB⟩, A50, H⟩ := H
 replace H : (if a3 = 0 then ((sample_mixed.f au aw aA aB au aw aA aB 0).bind fun aD => (some (aD.1, aD.2.1, aD.2.2.1, aD.2.2.2))) else ((sample_sampler_texel.f ai aj ak al am (wrap64 (a1 + 1)) a2).bind fun aE => ((sample_mixed.f au aw aA aB aE.1 aE.2.1 aE.2.2.1 aE.2.2.2 a3).bind fun az => (some (az.1, az.2.1, az.2.2.1, az.2.2.2))))) = some (r1, r2, r3, r4) := H
 have A5 := A_.mk A50
 clear A50
 by_cases c6 : a3 = 0
 ·rw [if_pos c6] at H
  have bg : (a3 == 0) = true := beq_iff_eq.mpr c6
  have bh : (a3 != 0) = false := bne_eq_false_iff_eq.mpr c6
  clear c6
  replace H := Option.bind_eq_some_iff.mp H
  obtain ⟨⟨aM, aO, aQ, a7⟩, A70, H⟩ := H
  replace H : (some (aM, aO, aQ, a7)) = some (r1, r2, r3, r4) := H
  have A7 := A_.mk A70
  clear A70
  simp only [Option.some.injEq, Prod.mk.injEq] at H
  obtain ⟨rfl, rfl, rfl, rfl⟩ := H
  go_enter Tryd.func18, Tryd.ntmps18
  go_wp2_with (first | ((with_reducible refine O_ (N := 4) rfl ?_); refine N_ ?hg (N := 4) ?hd (cs := #[.string ai, .int .i64 aj, .int .i64 ak, .int .i64 al, .int .i64 am]) (t := 62) ?hr ?_; (case hd => rfl); (case hg => rfl); (case hr => first | (go_simp; done) | (go_simp; rfl)); intro af hg w8 hbox hb; have ap := A_.mk (E_ (by exact lB HB.out) hb); have aq := A_.mk (hbox); have ar := A_.mk ((by rw [hg]; exact (G_ (by exact lB HB.out)) : w.heap.size ≤ af)); have ay := A_.mk ((by rw [hg]; exact (G_ (by exact lB HB.out)) : w.heap.size ≤ af)); clear HB; have HB := ap; have aa := aq; have bd := ar; have av := ay; clear ap aq ar ay; clear hb hbox hg) | ((with_reducible refine O_ (N := 8) rfl ?_); refine N_ ?hg (N := 8) ?hd (cs := #[.int .i64 0, .int .i64 0, .int .i64 0, .int .i64 0]) (t := 32) ?hr ?_; (case hd => rfl); (case hg => rfl); (case hr => first | (go_simp; done) | (go_simp; rfl)); intro ab hg w9 hbox hb; have ap := A_.mk (F_ (g := af) (o := .cells #[.string ai, .int .i64 aj, .int .i64 ak, .int .i64 al, .int .i64 am] 62 (0, 0)) (by refine kB ?_; exact aa.out) hb); have aq := A_.mk (E_ (by exact lB HB.out) hb); have ar := A_.mk (hbox); have ay := A_.mk ((by rw [hg]; exact (G_ (by exact lB HB.out)) : w.heap.size ≤ ab)); have aH := A_.mk ((by rw [hg]; exact (G_ (by exact lB HB.out)) : w.heap.size ≤ ab)); have aI := A_.mk ((by rw [hg]; exact Nat.ne_of_lt (M_ (g := af) (o := .cells #[.string ai, .int .i64 aj, .int .i64 ak, .int .i64 al, .int .i64 am] 62 (0, 0)) (by refine kB ?_; exact aa.out)) : af ≠ ab)); have aJ := A_.mk ((by rw [hg]; exact Nat.ne_of_gt (M_ (g := af) (o := .cells #[.string ai, .int .i64 aj, .int .i64 ak, .int .i64 al, .int .i64 am] 62 (0, 0)) (by refine kB ?_; exact aa.out)) : ab ≠ af)); clear aa; clear HB; have aa := ap; have HB := aq; have ac := ar; have be := ay; have aC := aH; have ad := aI; have aF := aJ; clear ap aq ar ay aH aI aJ; clear hb hbox hg; have cj := ad.out; have ck := aF.out; have bi : w9.cell? ⟨af, 0, none⟩ = some (.string ai) := (D_ aa.out 0).trans rfl; have bj : w9.cell? ⟨af, 1, none⟩ = some (.int .i64 aj) := (D_ aa.out 1).trans rfl; have bk : w9.cell? ⟨af, 2, none⟩ = some (.int .i64 ak) := (D_ aa.out 2).trans rfl; have bl : w9.cell? ⟨af, 3, none⟩ = some (.int .i64 al) := (D_ aa.out 3).trans rfl; have bm : w9.cell? ⟨af, 4, none⟩ = some (.int .i64 am) := (D_ aa.out 4).trans rfl; have bn := B_ aa.out 0; have bo := B_ aa.out 1; have bp := B_ aa.out 2; have bq := B_ aa.out 3; have br := B_ aa.out 4) | ((with_reducible refine P_ (f := 32) rfl ?_); refine R_ (some 13) rfl rfl Tryd.func32 (by kernel_rfl) rfl #[.agg #[.string ai, .int .i64 aj, .int .i64 ak, .int .i64 al, .int .i64 am], .int .i64 a1, .int .i64 a2] rfl (by (try simp only [List.map_toArray, List.map_cons, List.map_nil]); first | done | rfl | (simp only [List.length_drop, List.length_take]; rfl)) ?_; (with_reducible refine (sample_sampler_texel.calls ai aj ak al am a1 a2 au aw aA aB _ A5.out).mono ?_); rintro e cG ⟨rfl, hb⟩; refine ⟨_, rfl, ?_⟩; have ap := A_.mk (F_ (g := af) (o := .cells #[.string ai, .int .i64 aj, .int .i64 ak, .int .i64 al, .int .i64 am] 62 (0, 0)) (by refine kB ?_; exact aa.out) hb); have aq := A_.mk (F_ (g := ab) (o := .cells #[.int .i64 0, .int .i64 0, .int .i64 0, .int .i64 0] 32 (0, 0)) (by refine kB ?_; exact ac.out) hb); have ar := A_.mk (E_ (by exact lB HB.out) hb); clear aa; clear ac; clear HB; have aa := ap; have ac := aq; have HB := ar; clear ap aq ar; (try clear hb); (try clear a9); (try clear hk); (try clear hi)) | ((with_reducible refine O_ (N := 9) rfl ?_); refine N_ ?hg (N := 9) ?hd (cs := #[.int .i64 0, .int .i64 0, .int .i64 0, .int .i64 0]) (t := 32) ?hr ?_; (case hd => rfl); (case hg => rfl); (case hr => first | (go_simp; done) | (go_simp; rfl)); intro ae hg ba hbox hb; have ap := A_.mk (F_ (g := af) (o := .cells #[.string ai, .int .i64 aj, .int .i64 ak, .int .i64 al, .int .i64 am] 62 (0, 0)) (by refine kB ?_; exact aa.out) hb); have aq := A_.mk (F_ (g := ab) (o := .cells #[.int .i64 0, .int .i64 0, .int .i64 0, .int .i64 0] 32 (0, 0)) (by refine kB ?_; exact ac.out) hb); have ar := A_.mk (E_ (by exact lB HB.out) hb); have ay := A_.mk (hbox); have aH := A_.mk ((by rw [hg]; exact (G_ (by exact lB HB.out)) : w.heap.size ≤ ae)); have aI := A_.mk ((by rw [hg]; exact (G_ (by exact lB HB.out)) : w.heap.size ≤ ae)); have aJ := A_.mk ((by rw [hg]; exact Nat.ne_of_lt (M_ (g := af) (o := .cells #[.string ai, .int .i64 aj, .int .i64 ak, .int .i64 al, .int .i64 am] 62 (0, 0)) (by refine kB ?_; exact aa.out)) : af ≠ ae)); have aW := A_.mk ((by rw [hg]; exact Nat.ne_of_gt (M_ (g := af) (o := .cells #[.string ai, .int .i64 aj, .int .i64 ak, .int .i64 al, .int .i64 am] 62 (0, 0)) (by refine kB ?_; exact aa.out)) : ae ≠ af)); have aX := A_.mk ((by rw [hg]; exact Nat.ne_of_lt (M_ (g := ab) (o := .cells #[.int .i64 0, .int .i64 0, .int .i64 0, .int .i64 0] 32 (0, 0)) (by refine kB ?_; exact ac.out)) : ab ≠ ae)); have aY := A_.mk ((by rw [hg]; exact Nat.ne_of_gt (M_ (g := ab) (o := .cells #[.int .i64 0, .int .i64 0, .int .i64 0, .int .i64 0] 32 (0, 0)) (by refine kB ?_; exact ac.out)) : ae ≠ ab)); clear aa; clear ac; clear HB; have aa := ap; have ac := aq; have HB := ar; have ag := ay; have bf := aH; have aG := aI; have ax := aJ; have aK := aW; have an := aX; have ah := aY; clear ap aq ar ay aH aI aJ aW aX aY; clear hb hbox hg; have cl := aK.out; have cm := ax.out; have cn := ah.out; have co := an.out; have bs : ba.cell? ⟨ae, 0, none⟩ = some (.int .i64 0) := (D_ ag.out 0).trans rfl; have bu : ba.cell? ⟨ae, 1, none⟩ = some (.int .i64 0) := (D_ ag.out 1).trans rfl; have bv : ba.cell? ⟨ae, 2, none⟩ = some (.int .i64 0) := (D_ ag.out 2).trans rfl; have bw : ba.cell? ⟨ae, 3, none⟩ = some (.int .i64 0) := (D_ ag.out 3).trans rfl; have bx := B_ ag.out 0; have bz := B_ ag.out 1; have bA := B_ ag.out 2; have bB := B_ ag.out 3) | ((with_reducible refine P_ (f := 19) rfl ?_); refine R_ (some 18) rfl rfl Tryd.func19 (by kernel_rfl) rfl #[.agg #[.int .i64 au, .int .i64 aw, .int .i64 aA, .int .i64 aB], .agg #[.int .i64 au, .int .i64 aw, .int .i64 aA, .int .i64 aB], .int .i64 0] rfl (by (try simp only [List.map_toArray, List.map_cons, List.map_nil]); first | done | rfl | (simp only [List.length_drop, List.length_take]; rfl)) ?_; (with_reducible refine (sample_mixed.calls au aw aA aB au aw aA aB 0 aM aO aQ a7 _ A7.out).mono ?_); rintro e bb ⟨rfl, hb⟩; refine ⟨_, rfl, ?_⟩; have ap := A_.mk (F_ (g := af) (o := .cells #[.string ai, .int .i64 aj, .int .i64 ak, .int .i64 al, .int .i64 am] 62 (0, 0)) (by refine kB ?_; refine J_ ?_ ax.out _; refine kB ?_; refine J_ ?_ ax.out _; refine kB ?_; refine J_ ?_ ax.out _; refine kB ?_; refine J_ ?_ ax.out _; refine kB ?_; exact aa.out) hb); have aq := A_.mk (F_ (g := ab) (o := .cells #[.int .i64 0, .int .i64 0, .int .i64 0, .int .i64 0] 32 (0, 0)) (by refine kB ?_; refine J_ ?_ an.out _; refine kB ?_; refine J_ ?_ an.out _; refine kB ?_; refine J_ ?_ an.out _; refine kB ?_; refine J_ ?_ an.out _; refine kB ?_; exact ac.out) hb); have ar := A_.mk (F_ (g := ae) (o := .cells #[.int .i64 au, .int .i64 aw, .int .i64 aA, .int .i64 aB] 32 (0, 0)) (by refine kB ?_; refine L_ (cs := #[.int .i64 au, .int .i64 aw, .int .i64 aA, .int .i64 0]) ?_ 3 _ rfl; refine kB ?_; refine L_ (cs := #[.int .i64 au, .int .i64 aw, .int .i64 0, .int .i64 0]) ?_ 2 _ rfl; refine kB ?_; refine L_ (cs := #[.int .i64 au, .int .i64 0, .int .i64 0, .int .i64 0]) ?_ 1 _ rfl; refine kB ?_; refine L_ (cs := #[.int .i64 0, .int .i64 0, .int .i64 0, .int .i64 0]) ?_ 0 _ rfl; refine kB ?_; exact ag.out) hb); have ay := A_.mk (E_ (by exact lB HB.out) hb); clear aa; clear ac; clear ag; clear HB; have aa := ap; have ac := aq; have ag := ar; have HB := ay; clear ap aq ar ay; (try clear hb); (try clear a9); (try clear hk); (try clear hi); have bC : bb.cell? ⟨ab, 0, none⟩ = some (.int .i64 0) := (D_ ac.out 0).trans rfl; have bD : bb.cell? ⟨ab, 1, none⟩ = some (.int .i64 0) := (D_ ac.out 1).trans rfl; have bE : bb.cell? ⟨ab, 2, none⟩ = some (.int .i64 0) := (D_ ac.out 2).trans rfl; have bF : bb.cell? ⟨ab, 3, none⟩ = some (.int .i64 0) := (D_ ac.out 3).trans rfl; have bG := B_ ac.out 0; have bH := B_ ac.out 1; have bI := B_ ac.out 2; have bJ := B_ ac.out 3))
  refine bodyPost_ret (results_cell_row rfl _ _ ab 32 #[.int .i64 aM, .int .i64 aO, .int .i64 aQ, .int .i64 a7] (0, 0) _ rfl (by refine kB ?_; refine L_ (cs := #[.int .i64 aM, .int .i64 aO, .int .i64 aQ, .int .i64 0]) ?_ 3 _ rfl; refine kB ?_; refine L_ (cs := #[.int .i64 aM, .int .i64 aO, .int .i64 0, .int .i64 0]) ?_ 2 _ rfl; refine kB ?_; refine L_ (cs := #[.int .i64 aM, .int .i64 0, .int .i64 0, .int .i64 0]) ?_ 1 _ rfl; refine kB ?_; refine L_ (cs := #[.int .i64 0, .int .i64 0, .int .i64 0, .int .i64 0]) ?_ 0 _ rfl; refine kB ?_; exact ac.out) Tryd.underlying32 rfl (by kernel_rfl)) rfl ?_
  exact ⟨by first | rfl | (simp [errW_none, errW_some] <;> rfl) | (simp [*, errW_none, errW_some] <;> rfl), by exact lB HB.out⟩
 ·rw [if_neg c6] at H
  have bg : (a3 == 0) = false := beq_eq_false_iff_ne.mpr c6
  have bh : (a3 != 0) = true := bne_iff_ne.mpr c6
  replace H := Option.bind_eq_some_iff.mp H
  obtain ⟨⟨aR, aS, aT, aU⟩, A190, H⟩ := H
  replace H : ((sample_mixed.f au aw aA aB aR aS aT aU a3).bind fun az => (some (az.1, az.2.1, az.2.2.1, az.2.2.2))) = some (r1, r2, r3, r4) := H
  have A19 := A_.mk A190
  clear A190
  replace H := Option.bind_eq_some_iff.mp H
  obtain ⟨⟨aN, aP, aV, a8⟩, A200, H⟩ := H
  replace H : (some (aN, aP, aV, a8)) = some (r1, r2, r3, r4) := H
  have A20 := A_.mk A200
  clear A200
  simp only [Option.some.injEq, Prod.mk.injEq] at H
  obtain ⟨rfl, rfl, rfl, rfl⟩ := H
  go_enter Tryd.func18, Tryd.ntmps18
  try go_wp2_with (first | ((with_reducible refine O_ (N := 4) rfl ?_); refine N_ ?hg (N := 4) ?hd (cs := #[.string ai, .int .i64 aj, .int .i64 ak, .int .i64 al, .int .i64 am]) (t := 62) ?hr ?_; (case hd => rfl); (case hg => rfl); (case hr => first | (go_simp; done) | (go_simp; rfl)); intro af hg cH hbox hb; have ap := A_.mk (E_ (by exact lB HB.out) hb); have aq := A_.mk (hbox); have ar := A_.mk ((by rw [hg]; exact (G_ (by exact lB HB.out)) : w.heap.size ≤ af)); have ay := A_.mk ((by rw [hg]; exact (G_ (by exact lB HB.out)) : w.heap.size ≤ af)); clear HB; have HB := ap; have aa := aq; have bd := ar; have av := ay; clear ap aq ar ay; clear hb hbox hg) | ((with_reducible refine O_ (N := 8) rfl ?_); refine N_ ?hg (N := 8) ?hd (cs := #[.int .i64 0, .int .i64 0, .int .i64 0, .int .i64 0]) (t := 32) ?hr ?_; (case hd => rfl); (case hg => rfl); (case hr => first | (go_simp; done) | (go_simp; rfl)); intro ab hg aZ hbox hb; have ap := A_.mk (F_ (g := af) (o := .cells #[.string ai, .int .i64 aj, .int .i64 ak, .int .i64 al, .int .i64 am] 62 (0, 0)) (by refine kB ?_; exact aa.out) hb); have aq := A_.mk (E_ (by exact lB HB.out) hb); have ar := A_.mk (hbox); have ay := A_.mk ((by rw [hg]; exact (G_ (by exact lB HB.out)) : w.heap.size ≤ ab)); have aH := A_.mk ((by rw [hg]; exact (G_ (by exact lB HB.out)) : w.heap.size ≤ ab)); have aI := A_.mk ((by rw [hg]; exact Nat.ne_of_lt (M_ (g := af) (o := .cells #[.string ai, .int .i64 aj, .int .i64 ak, .int .i64 al, .int .i64 am] 62 (0, 0)) (by refine kB ?_; exact aa.out)) : af ≠ ab)); have aJ := A_.mk ((by rw [hg]; exact Nat.ne_of_gt (M_ (g := af) (o := .cells #[.string ai, .int .i64 aj, .int .i64 ak, .int .i64 al, .int .i64 am] 62 (0, 0)) (by refine kB ?_; exact aa.out)) : ab ≠ af)); clear aa; clear HB; have aa := ap; have HB := aq; have ac := ar; have be := ay; have aC := aH; have ad := aI; have aF := aJ; clear ap aq ar ay aH aI aJ; clear hb hbox hg; have cp := ad.out; have cq := aF.out; have bK : aZ.cell? ⟨af, 0, none⟩ = some (.string ai) := (D_ aa.out 0).trans rfl; have bL : aZ.cell? ⟨af, 1, none⟩ = some (.int .i64 aj) := (D_ aa.out 1).trans rfl; have bM : aZ.cell? ⟨af, 2, none⟩ = some (.int .i64 ak) := (D_ aa.out 2).trans rfl; have bN : aZ.cell? ⟨af, 3, none⟩ = some (.int .i64 al) := (D_ aa.out 3).trans rfl; have bO : aZ.cell? ⟨af, 4, none⟩ = some (.int .i64 am) := (D_ aa.out 4).trans rfl; have bP := B_ aa.out 0; have bQ := B_ aa.out 1; have bR := B_ aa.out 2; have bS := B_ aa.out 3; have bT := B_ aa.out 4) | ((with_reducible refine P_ (f := 32) rfl ?_); refine R_ (some 13) rfl rfl Tryd.func32 (by kernel_rfl) rfl #[.agg #[.string ai, .int .i64 aj, .int .i64 ak, .int .i64 al, .int .i64 am], .int .i64 a1, .int .i64 a2] rfl (by (try simp only [List.map_toArray, List.map_cons, List.map_nil]); first | done | rfl | (simp only [List.length_drop, List.length_take]; rfl)) ?_; (with_reducible refine (sample_sampler_texel.calls ai aj ak al am a1 a2 au aw aA aB _ A5.out).mono ?_); rintro e cI ⟨rfl, hb⟩; refine ⟨_, rfl, ?_⟩; have ap := A_.mk (F_ (g := af) (o := .cells #[.string ai, .int .i64 aj, .int .i64 ak, .int .i64 al, .int .i64 am] 62 (0, 0)) (by refine kB ?_; exact aa.out) hb); have aq := A_.mk (F_ (g := ab) (o := .cells #[.int .i64 0, .int .i64 0, .int .i64 0, .int .i64 0] 32 (0, 0)) (by refine kB ?_; exact ac.out) hb); have ar := A_.mk (E_ (by exact lB HB.out) hb); clear aa; clear ac; clear HB; have aa := ap; have ac := aq; have HB := ar; clear ap aq ar; (try clear hb); (try clear a9); (try clear hk); (try clear hi)) | ((with_reducible refine O_ (N := 9) rfl ?_); refine N_ ?hg (N := 9) ?hd (cs := #[.int .i64 0, .int .i64 0, .int .i64 0, .int .i64 0]) (t := 32) ?hr ?_; (case hd => rfl); (case hg => rfl); (case hr => first | (go_simp; done) | (go_simp; rfl)); intro ae hg aL hbox hb; have ap := A_.mk (F_ (g := af) (o := .cells #[.string ai, .int .i64 aj, .int .i64 ak, .int .i64 al, .int .i64 am] 62 (0, 0)) (by refine kB ?_; exact aa.out) hb); have aq := A_.mk (F_ (g := ab) (o := .cells #[.int .i64 0, .int .i64 0, .int .i64 0, .int .i64 0] 32 (0, 0)) (by refine kB ?_; exact ac.out) hb); have ar := A_.mk (E_ (by exact lB HB.out) hb); have ay := A_.mk (hbox); have aH := A_.mk ((by rw [hg]; exact (G_ (by exact lB HB.out)) : w.heap.size ≤ ae)); have aI := A_.mk ((by rw [hg]; exact (G_ (by exact lB HB.out)) : w.heap.size ≤ ae)); have aJ := A_.mk ((by rw [hg]; exact Nat.ne_of_lt (M_ (g := af) (o := .cells #[.string ai, .int .i64 aj, .int .i64 ak, .int .i64 al, .int .i64 am] 62 (0, 0)) (by refine kB ?_; exact aa.out)) : af ≠ ae)); have aW := A_.mk ((by rw [hg]; exact Nat.ne_of_gt (M_ (g := af) (o := .cells #[.string ai, .int .i64 aj, .int .i64 ak, .int .i64 al, .int .i64 am] 62 (0, 0)) (by refine kB ?_; exact aa.out)) : ae ≠ af)); have aX := A_.mk ((by rw [hg]; exact Nat.ne_of_lt (M_ (g := ab) (o := .cells #[.int .i64 0, .int .i64 0, .int .i64 0, .int .i64 0] 32 (0, 0)) (by refine kB ?_; exact ac.out)) : ab ≠ ae)); have aY := A_.mk ((by rw [hg]; exact Nat.ne_of_gt (M_ (g := ab) (o := .cells #[.int .i64 0, .int .i64 0, .int .i64 0, .int .i64 0] 32 (0, 0)) (by refine kB ?_; exact ac.out)) : ae ≠ ab)); clear aa; clear ac; clear HB; have aa := ap; have ac := aq; have HB := ar; have ag := ay; have bf := aH; have aG := aI; have ax := aJ; have aK := aW; have an := aX; have ah := aY; clear ap aq ar ay aH aI aJ aW aX aY; clear hb hbox hg; have cr := aK.out; have ct := ax.out; have cu := ah.out; have cv := an.out; have bU : aL.cell? ⟨ae, 0, none⟩ = some (.int .i64 0) := (D_ ag.out 0).trans rfl; have bV : aL.cell? ⟨ae, 1, none⟩ = some (.int .i64 0) := (D_ ag.out 1).trans rfl; have bW : aL.cell? ⟨ae, 2, none⟩ = some (.int .i64 0) := (D_ ag.out 2).trans rfl; have bX : aL.cell? ⟨ae, 3, none⟩ = some (.int .i64 0) := (D_ ag.out 3).trans rfl; have bY := B_ ag.out 0; have bZ := B_ ag.out 1; have b0 := B_ ag.out 2; have b1 := B_ ag.out 3))
  have ap : A_ (((((aL.setCell ⟨ae, 0, none⟩ (.int .i64 au)).setCell ⟨ae, 1, none⟩ (.int .i64 aw)).setCell ⟨ae, 2, none⟩ (.int .i64 aA)).setCell ⟨ae, 3, none⟩ (.int .i64 aB)).heap[af]? = some (.cells #[.string ai, .int .i64 aj, .int .i64 ak, .int .i64 al, .int .i64 am] 62 (0, 0))) := ⟨by refine kB ?_; refine J_ ?_ ax.out _; refine kB ?_; refine J_ ?_ ax.out _; refine kB ?_; refine J_ ?_ ax.out _; refine kB ?_; refine J_ ?_ ax.out _; refine kB ?_; exact aa.out⟩
  have aq : A_ (((((aL.setCell ⟨ae, 0, none⟩ (.int .i64 au)).setCell ⟨ae, 1, none⟩ (.int .i64 aw)).setCell ⟨ae, 2, none⟩ (.int .i64 aA)).setCell ⟨ae, 3, none⟩ (.int .i64 aB)).heap[ab]? = some (.cells #[.int .i64 0, .int .i64 0, .int .i64 0, .int .i64 0] 32 (0, 0))) := ⟨by refine kB ?_; refine J_ ?_ an.out _; refine kB ?_; refine J_ ?_ an.out _; refine kB ?_; refine J_ ?_ an.out _; refine kB ?_; refine J_ ?_ an.out _; refine kB ?_; exact ac.out⟩
  have ar : A_ (((((aL.setCell ⟨ae, 0, none⟩ (.int .i64 au)).setCell ⟨ae, 1, none⟩ (.int .i64 aw)).setCell ⟨ae, 2, none⟩ (.int .i64 aA)).setCell ⟨ae, 3, none⟩ (.int .i64 aB)).heap[ae]? = some (.cells #[.int .i64 au, .int .i64 aw, .int .i64 aA, .int .i64 aB] 32 (0, 0))) := ⟨by refine kB ?_; refine L_ (cs := #[.int .i64 au, .int .i64 aw, .int .i64 aA, .int .i64 0]) ?_ 3 _ rfl; refine kB ?_; refine L_ (cs := #[.int .i64 au, .int .i64 aw, .int .i64 0, .int .i64 0]) ?_ 2 _ rfl; refine kB ?_; refine L_ (cs := #[.int .i64 au, .int .i64 0, .int .i64 0, .int .i64 0]) ?_ 1 _ rfl; refine kB ?_; refine L_ (cs := #[.int .i64 0, .int .i64 0, .int .i64 0, .int .i64 0]) ?_ 0 _ rfl; refine kB ?_; exact ag.out⟩
  have ay : A_ (Below w.heap.size w ((((aL.setCell ⟨ae, 0, none⟩ (.int .i64 au)).setCell ⟨ae, 1, none⟩ (.int .i64 aw)).setCell ⟨ae, 2, none⟩ (.int .i64 aA)).setCell ⟨ae, 3, none⟩ (.int .i64 aB))) := ⟨by exact lB HB.out⟩
  (try clear aa)
  (try clear ac)
  (try clear ag)
  (try clear HB)
  generalize ((((aL.setCell ⟨ae, 0, none⟩ (.int .i64 au)).setCell ⟨ae, 1, none⟩ (.int .i64 aw)).setCell ⟨ae, 2, none⟩ (.int .i64 aA)).setCell ⟨ae, 3, none⟩ (.int .i64 aB)) = ci at ap aq ar ay ⊢
  have aa := ap
  have ac := aq
  have ag := ar
  have HB := ay
  clear ap aq ar ay
  have ap := A_.mk (Y_ aa.out)
  have aq := A_.mk (Y_ ac.out)
  have ar := A_.mk (Y_ ag.out)
  have ay := A_.mk (T_ HB.out)
  clear aa
  clear ac
  clear ag
  clear HB
  have aa := ap
  have ac := aq
  have ag := ar
  have HB := ay
  clear ap aq ar ay
  refine start_ (n := 9) (S := fun w' => w'.cell? ⟨ae, 0, none⟩ = some (.int .i64 au) ∧ w'.cell? ⟨ae, 1, none⟩ = some (.int .i64 aw) ∧ w'.cell? ⟨ae, 2, none⟩ = some (.int .i64 aA) ∧ w'.cell? ⟨ae, 3, none⟩ = some (.int .i64 aB) ∧ w'.cell? ⟨af, 0, none⟩ = some (.string ai) ∧ w'.cell? ⟨af, 1, none⟩ = some (.int .i64 aj) ∧ w'.cell? ⟨af, 2, none⟩ = some (.int .i64 ak) ∧ w'.cell? ⟨af, 3, none⟩ = some (.int .i64 al) ∧ w'.cell? ⟨af, 4, none⟩ = some (.int .i64 am)) (ds := []) #[false, false, false, false, false, false, false, false, false] (by kernel_rfl) rfl rfl ⟨(D_ ag.out 0).trans rfl, (D_ ag.out 1).trans rfl, (D_ ag.out 2).trans rfl, (D_ ag.out 3).trans rfl, (D_ aa.out 0).trans rfl, (D_ aa.out 1).trans rfl, (D_ aa.out 2).trans rfl, (D_ aa.out 3).trans rfl, (D_ aa.out 4).trans rfl⟩ (fun hHeld => ?_); refine with_tabW sample_sampler_row.tab4 sample_sampler_row.bits4 (fun HT_ HW_ => ?_)
  generalize ci.drew = cJ at aa ac ag HB hHeld ⊢
  refine pure_ (i := 2) (N := some 21) (v := ?_) (a' := ?_) #[false, false, true, false, false, false, false, false, false] rfl rfl (A1_ HT_.out (by kernel_rfl)) (fun _ _ _ h => h) (Or.inl ⟨by rfl, ?_⟩) ?_ ?_
  rotate_left
  ·intro w'
   go_simp
   with_reducible rfl
  rotate_left
  ·exact pA
  refine pure_ (i := 3) (N := some 22) (v := ?_) (a' := ?_) #[false, false, true, true, false, false, false, false, false] rfl rfl (A1_ HT_.out (by kernel_rfl)) (fun _ _ _ h => h) (Or.inl ⟨by rfl, ?_⟩) ?_ ?_
  rotate_left
  ·intro w'
   go_simp
   with_reducible rfl
  rotate_left
  ·exact pA
  refine pure_ (i := 4) (N := some 23) (v := ?_) (a' := ?_) #[false, false, true, true, true, false, false, false, false] rfl rfl (A1_ HT_.out (by kernel_rfl)) (fun _ _ _ h => h) (Or.inl ⟨by rfl, ?_⟩) ?_ ?_
  rotate_left
  ·intro w'
   go_simp
   with_reducible rfl
  rotate_left
  ·exact pA
  refine pure_ (i := 6) (N := some 25) (v := ?_) (a' := ?_) #[false, false, true, true, true, false, true, false, false] rfl rfl (A1_ HT_.out (by kernel_rfl)) (fun _ _ _ h => h) (Or.inl ⟨by rfl, ?_⟩) ?_ ?_
  rotate_left
  ·intro w'
   go_simp
   with_reducible rfl
  rotate_left
  ·exact pA
  refine take_ (i := 0) (N := some 19) (v := ?_) (a' := ?_) #[true, false, true, true, true, false, true, false, false] rfl rfl (B1_ HT_.out HW_.out (by kernel_rfl)) (fun _ _ _ h => h) (Or.inl ⟨by rfl, ?_⟩) hHeld ?_ ?_
  rotate_left
  ·rintro w' ⟨s0, s1, s2, s3, s4, s5, s6, s7, s8⟩
   go_simp
   with_reducible rfl
  rotate_left
  ·exact pA
  refine take_ (i := 1) (N := some 20) (v := ?_) (a' := ?_) #[true, true, true, true, true, false, true, false, false] rfl rfl (B1_ HT_.out HW_.out (by kernel_rfl)) (fun _ _ _ h => h) (Or.inl ⟨by rfl, ?_⟩) hHeld ?_ ?_
  rotate_left
  ·rintro w' ⟨s0, s1, s2, s3, s4, s5, s6, s7, s8⟩
   go_simp
   with_reducible rfl
  rotate_left
  ·exact pA
  refine one_ (i := 5) (N := some 24) #[true, true, true, true, true, true, true, false, false] rfl rfl (one_of HT_.out (by kernel_rfl)) (by decide) (fun K hK => ?_)
  refine goes_ Tryd.func32 (by kernel_rfl) rfl #[.agg #[.string ai, .int .i64 aj, .int .i64 ak, .int .i64 al, .int .i64 am], .int .i64 (wrap64 (a1 + 1)), .int .i64 a2] (by rfl) rfl rfl (by (try simp only [List.map_toArray, List.map_cons, List.map_nil]); first | done | rfl | (simp only [List.length_drop, List.length_take]; rfl)) ?_
  with_reducible refine (sample_sampler_texel.calls ai aj ak al am (wrap64 (a1 + 1)) a2 aR aS aT aU _ A19.out).mono ?_
  rintro e cK ⟨rfl, hb⟩
  refine ⟨_, rfl, ?_⟩
  have ap := A_.mk (F_ (g := af) (o := .cells #[.string ai, .int .i64 aj, .int .i64 ak, .int .i64 al, .int .i64 am] 62 (0, 0)) (by refine kB ?_; exact aa.out) hb)
  have aq := A_.mk (F_ (g := ab) (o := .cells #[.int .i64 0, .int .i64 0, .int .i64 0, .int .i64 0] 32 (0, 0)) (by refine kB ?_; exact ac.out) hb)
  have ar := A_.mk (F_ (g := ae) (o := .cells #[.int .i64 au, .int .i64 aw, .int .i64 aA, .int .i64 aB] 32 (0, 0)) (by refine kB ?_; exact ag.out) hb)
  have ay := A_.mk (E_ (by exact lB HB.out) hb)
  clear aa
  clear ac
  clear ag
  clear HB
  have aa := ap
  have ac := aq
  have ag := ar
  have HB := ay
  clear ap aq ar ay
  (try clear hb)
  (try clear a9)
  (try clear hk)
  (try clear hi)
  refine hK.out _ _ ⟨(D_ ag.out 0).trans rfl, (D_ ag.out 1).trans rfl, (D_ ag.out 2).trans rfl, (D_ ag.out 3).trans rfl, (D_ aa.out 0).trans rfl, (D_ aa.out 1).trans rfl, (D_ aa.out 2).trans rfl, (D_ aa.out 3).trans rfl, (D_ aa.out 4).trans rfl⟩ (fun hHeld => ?_)
  clear hK K
  refine norm_ (a' := ?_) ?_ ?_
  rotate_left
  ·show Act.put _ (some 24) _ = _
   exact pA
  refine one_ (i := 7) (N := some 26) #[true, true, true, true, true, true, true, true, false] rfl rfl (one_of HT_.out (by kernel_rfl)) (by decide) (fun K hK => ?_)
  refine goes_ Tryd.func19 (by kernel_rfl) rfl #[.agg #[.int .i64 au, .int .i64 aw, .int .i64 aA, .int .i64 aB], .agg #[.int .i64 aR, .int .i64 aS, .int .i64 aT, .int .i64 aU], .int .i64 a3] (by rfl) rfl rfl (by (try simp only [List.map_toArray, List.map_cons, List.map_nil]); first | done | rfl | (simp only [List.length_drop, List.length_take]; rfl)) ?_
  with_reducible refine (sample_mixed.calls au aw aA aB aR aS aT aU a3 aN aP aV a8 _ A20.out).mono ?_
  rintro e bc ⟨rfl, hb⟩
  refine ⟨_, rfl, ?_⟩
  have ap := A_.mk (F_ (g := af) (o := .cells #[.string ai, .int .i64 aj, .int .i64 ak, .int .i64 al, .int .i64 am] 62 (0, 0)) (by refine kB ?_; exact aa.out) hb)
  have aq := A_.mk (F_ (g := ab) (o := .cells #[.int .i64 0, .int .i64 0, .int .i64 0, .int .i64 0] 32 (0, 0)) (by refine kB ?_; exact ac.out) hb)
  have ar := A_.mk (F_ (g := ae) (o := .cells #[.int .i64 au, .int .i64 aw, .int .i64 aA, .int .i64 aB] 32 (0, 0)) (by refine kB ?_; exact ag.out) hb)
  have ay := A_.mk (E_ (by exact lB HB.out) hb)
  clear aa
  clear ac
  clear ag
  clear HB
  have aa := ap
  have ac := aq
  have ag := ar
  have HB := ay
  clear ap aq ar ay
  (try clear hb)
  (try clear a9)
  (try clear hk)
  (try clear hi)
  refine hK.out _ _ ⟨(D_ ag.out 0).trans rfl, (D_ ag.out 1).trans rfl, (D_ ag.out 2).trans rfl, (D_ ag.out 3).trans rfl, (D_ aa.out 0).trans rfl, (D_ aa.out 1).trans rfl, (D_ aa.out 2).trans rfl, (D_ aa.out 3).trans rfl, (D_ aa.out 4).trans rfl⟩ (fun hHeld => ?_)
  clear hK K
  refine norm_ (a' := ?_) ?_ ?_
  rotate_left
  ·show Act.put _ (some 26) _ = _
   exact pA
  refine one_ (i := 8) (N := none) #[true, true, true, true, true, true, true, true, true] rfl rfl (one_of HT_.out (by kernel_rfl)) (by decide) (fun K hK => ?_)
  have cC : bc.cell? ⟨ab, 0, none⟩ = some (.int .i64 0) := (D_ ac.out 0).trans rfl
  have cw := B_ ac.out 0
  have b2 := ad.out
  have b3 := ah.out
  have b4 := aF.out
  have b5 := an.out
  have cD : bc.cell? ⟨ab, 1, none⟩ = some (.int .i64 0) := (D_ ac.out 1).trans rfl
  have cx := B_ ac.out 1
  have b6 := ad.out
  have b7 := ah.out
  have b8 := aF.out
  have b9 := an.out
  have cE : bc.cell? ⟨ab, 2, none⟩ = some (.int .i64 0) := (D_ ac.out 2).trans rfl
  have cy := B_ ac.out 2
  have ca := ad.out
  have cb := ah.out
  have cc := aF.out
  have cd := an.out
  have cF : bc.cell? ⟨ab, 3, none⟩ = some (.int .i64 0) := (D_ ac.out 3).trans rfl
  have cz := B_ ac.out 3
  have ce := ad.out
  have cf := ah.out
  have cg := aF.out
  have ch := an.out
  refine skip_ (w1 := ?_) (by rfl) rfl ?_ ?_
  rotate_left
  ·go_simp
   rfl
  refine hK.out _ _ ⟨((I_ (p := ⟨ab, _, none⟩) ah.out _).trans (((I_ (p := ⟨ab, _, none⟩) ah.out _).trans (((I_ (p := ⟨ab, _, none⟩) ah.out _).trans (((I_ (p := ⟨ab, _, none⟩) ah.out _).trans (hHeld.1)))))))), ((I_ (p := ⟨ab, _, none⟩) ah.out _).trans (((I_ (p := ⟨ab, _, none⟩) ah.out _).trans (((I_ (p := ⟨ab, _, none⟩) ah.out _).trans (((I_ (p := ⟨ab, _, none⟩) ah.out _).trans (hHeld.2.1)))))))), ((I_ (p := ⟨ab, _, none⟩) ah.out _).trans (((I_ (p := ⟨ab, _, none⟩) ah.out _).trans (((I_ (p := ⟨ab, _, none⟩) ah.out _).trans (((I_ (p := ⟨ab, _, none⟩) ah.out _).trans (hHeld.2.2.1)))))))), ((I_ (p := ⟨ab, _, none⟩) ah.out _).trans (((I_ (p := ⟨ab, _, none⟩) ah.out _).trans (((I_ (p := ⟨ab, _, none⟩) ah.out _).trans (((I_ (p := ⟨ab, _, none⟩) ah.out _).trans (hHeld.2.2.2.1)))))))), ((I_ (p := ⟨ab, _, none⟩) ad.out _).trans (((I_ (p := ⟨ab, _, none⟩) ad.out _).trans (((I_ (p := ⟨ab, _, none⟩) ad.out _).trans (((I_ (p := ⟨ab, _, none⟩) ad.out _).trans (hHeld.2.2.2.2.1)))))))), ((I_ (p := ⟨ab, _, none⟩) ad.out _).trans (((I_ (p := ⟨ab, _, none⟩) ad.out _).trans (((I_ (p := ⟨ab, _, none⟩) ad.out _).trans (((I_ (p := ⟨ab, _, none⟩) ad.out _).trans (hHeld.2.2.2.2.2.1)))))))), ((I_ (p := ⟨ab, _, none⟩) ad.out _).trans (((I_ (p := ⟨ab, _, none⟩) ad.out _).trans (((I_ (p := ⟨ab, _, none⟩) ad.out _).trans (((I_ (p := ⟨ab, _, none⟩) ad.out _).trans (hHeld.2.2.2.2.2.2.1)))))))), ((I_ (p := ⟨ab, _, none⟩) ad.out _).trans (((I_ (p := ⟨ab, _, none⟩) ad.out _).trans (((I_ (p := ⟨ab, _, none⟩) ad.out _).trans (((I_ (p := ⟨ab, _, none⟩) ad.out _).trans (hHeld.2.2.2.2.2.2.2.1)))))))), ((I_ (p := ⟨ab, _, none⟩) ad.out _).trans (((I_ (p := ⟨ab, _, none⟩) ad.out _).trans (((I_ (p := ⟨ab, _, none⟩) ad.out _).trans (((I_ (p := ⟨ab, _, none⟩) ad.out _).trans (hHeld.2.2.2.2.2.2.2.2))))))))⟩ (fun hHeld => ?_)
  clear hK K
  refine done_ (done_of HT_.out (by kernel_rfl)) ?_
  try go_wp2
  refine bodyPost_ret (results_cell_row rfl _ _ ab 32 #[.int .i64 aN, .int .i64 aP, .int .i64 aV, .int .i64 a8] (0, 0) _ rfl (by refine kB ?_; refine L_ (cs := #[.int .i64 aN, .int .i64 aP, .int .i64 aV, .int .i64 0]) ?_ 3 _ rfl; refine kB ?_; refine L_ (cs := #[.int .i64 aN, .int .i64 aP, .int .i64 0, .int .i64 0]) ?_ 2 _ rfl; refine kB ?_; refine L_ (cs := #[.int .i64 aN, .int .i64 0, .int .i64 0, .int .i64 0]) ?_ 1 _ rfl; refine kB ?_; refine L_ (cs := #[.int .i64 0, .int .i64 0, .int .i64 0, .int .i64 0]) ?_ 0 _ rfl; refine kB ?_; exact ac.out) Tryd.underlying32 rfl (by kernel_rfl)) rfl ?_
  exact ⟨by first | rfl | (simp [errW_none, errW_some] <;> rfl) | (simp [*, errW_none, errW_some] <;> rfl), by exact lB HB.out⟩

end Go.Proofs.YtjcgmjhcaaaieaaDoor.Pr
