-- printed by a program of this session's (wip/mp.sh), out of the translation; the texts of its folder 'given' are typed by hand
-- shortened (wip/short.py)
import Derived.Test.YthnojbbfmcapnaaPr0
import Derived.Test.YthnojbbfmcapnaaPr30
namespace Go.Proofs.Ythnojbbfmcapnaa.Pr
open Go.RowKit Go.Proofs.YthnojbbfmcapnaaW.PrintWords Go.Proofs.YthnojbbfmcapnaaW.PrintLast Go.Proofs.YthnojbbfmcapnaaW.PrintMore
attribute [local go_sem] max2_int min2_int max_two min_two max_three min_three max_four min_four   -- for this text's walks alone
set_option linter.unusedVariables false
set_option linter.unusedSimpArgs false

/-! ### pochoirref07_Signed: function 35 -/
def pochoirref07_Signed.f (k : Nat) (a0 : ByteArray) (a1 : Int) : Option (Int) := (pochoirref07_Reader_I16.f k a0 a1 false).bind fun ab => (some ab.1)
theorem pochoirref07_Signed.mono : ∀ a0 a1 k, LeO (pochoirref07_Signed.f k a0 a1) (pochoirref07_Signed.f (k + 1) a0 a1) := by
 intro a0 a1 k
 unfold pochoirref07_Signed.f
 repeat' first
   | (with_reducible exact pochoirref07_Reader_I16.mono _ _ _ _)
   | (with_reducible exact LeO.refl _)
   | (with_reducible exact LeO.none _)
   | (with_reducible refine LeO.ite ?_ ?_)
   | (with_reducible refine LeO.bind ?_ (fun _ => ?_))
   | exact pochoirref07_Reader_I16.mono _ _ _ _
   | exact LeO.none _
   | refine LeO.ite ?_ ?_
   | refine LeO.bind ?_ (fun _ => ?_)
set_option maxHeartbeats 8000000 in
set_option maxRecDepth 100000 in
theorem pochoirref07_Signed.calls (k : Nat) (a0 : ByteArray) (a1 : Int) (r : Int) (w : World) (h : pochoirref07_Signed.f k a0 a1 = some r) :
  Calls Try.prog 35 #[.string a0, .int .i64 a1] w fun e w' => e = .returned (.int .i64 r) ∧ Below w.heap.size w w' := by
 have am := Try.underlying91
 have HB := Aside0.mk (Below.refl w.heap.size w)
 have H : ((pochoirref07_Reader_I16.f k a0 a1 false).bind fun ab => (some ab.1)) = some r := h
 clear h
 replace H := Option.bind_eq_some_iff.mp H
 obtain ⟨⟨ae, ah, ai, aj⟩, A30, H⟩ := H
 replace H : (some ae) = some r := H
 have A3 := Aside0.mk A30
 clear A30
 obtain rfl := Option.some.inj H
 go_enter Try.func35, Try.ntmps35
 go_wp2_with (first | ((with_reducible refine gate_dst (N := 9) rfl ?_); refine box_event ?hg (N := 9) ?hd (cs := #[.string a0, .int .i64 a1, .bool false]) (t := 91) ?hr ?_; (case hd => rfl); (case hg => rfl); (case hr => first | (go_simp; done) | (go_simp; rfl)); intro aa hg w4 hbox hb; have ac := Aside0.mk (below_step (by exact lB HB.out) hb); have ad := Aside0.mk ((by rw [hg]; exact (below_size (by exact lB HB.out)) : w.heap.size ≤ aa)); have af := Aside0.mk ((by rw [hg]; exact (below_size (by exact lB HB.out)) : w.heap.size ≤ aa)); have ag := Aside0.mk ((⟨hbox, (by rw [hg]; exact (below_size (by exact lB HB.out)))⟩ : IsS91 w _ aa a0 a1 false)); clear HB; have HB := ac; have ak := ad; have al := af; have HI258 := ag; clear ac ad af ag; clear hb hbox hg) | ((with_reducible refine gate_callee (f := 46) rfl ?_); refine goesL_ (some 11) rfl rfl Try.func46 (by kernel_rfl) rfl #[.pointer (some ⟨aa, 0, none⟩)] rfl (by (try simp only [List.map_toArray, List.map_cons, List.map_nil]); first | done | rfl | (simp only [List.length_drop, List.length_take]; rfl)) ?_; (with_reducible refine (pochoirref07_Reader_I16.calls k aa a0 a1 false ae ah ai aj w _ ?side1 ?side2 A3.out).mono ?_); (case side1 => repeat (first | (with_reducible first | exact HI258.out | apply IsS91.alloc | apply IsS91.drewN | apply IsS91.drew | apply IsS91.set_0 | apply IsS91.set_1 | apply IsS91.set_2) | exact HI258.out)); (case side2 => repeat (first | (with_reducible first | exact HB.out | apply below_alloc | apply pw_below_drewN | apply below_drew1 | refine below_set ?_ (IsS91.ge HI258.out)) | exact HB.out)); rintro e w5 ⟨rfl, hi, hb, hk⟩; refine ⟨_, rfl, ?_⟩; have ac := Aside0.mk (hb); have ad := Aside0.mk (hi); clear HB; clear HI258; have HB := ac; have HI258 := ad; clear ac ad; (try clear hb); (try clear an); (try clear hk); (try clear hi)))
 go_ret
 exact ⟨by first | rfl | (simp [errW_none, errW_some] <;> rfl) | (simp [*, errW_none, errW_some] <;> rfl), by repeat (first | (with_reducible first | exact HB.out | apply below_alloc | apply pw_below_drewN | apply below_drew1 | refine below_set ?_ (IsS91.ge HI258.out)) | exact HB.out)⟩

end Go.Proofs.Ythnojbbfmcapnaa.Pr
