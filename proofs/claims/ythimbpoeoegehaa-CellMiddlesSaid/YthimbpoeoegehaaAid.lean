/- Regions that draw their order of evaluation, inside a round of a range over a function: what holds of every order outside a round holds inside one, where no operation defers a call. -/
import Derived.RangeFuncNested
import Derived.RangeFuncBound
import Derived.RangeFuncCalls
import Derived.RangeFuncLeaves
import Derived.RangeFuncBox
import Derived.ControlIn
import Derived.OrdersIn
import Derived.Test.YthimbpoeoegehaaWWords
import Derived.Test.YthimbpoeoegehaaWLast
namespace Go.Proofs.Ythimbpoeoegehaa.Aid
open Go.RowKit Go.Proofs.YthimbpoeoegehaaW.PrintWords Go.Proofs.YthimbpoeoegehaaW.PrintLast

section
variable {P : Program} {ops : Array Oper} {Q : Exit → Act → World → Prop}

theorem rowsIn_of {l n : Nat} {row : String} {args : Array Value} {w : World} {R : Value → World → Prop} (h : Rows P row args w R) : RowsIn (Fence.wide.inRound l) n P row args w R :=
  fun c cs _ => let ⟨v, w', r, s⟩ := h c cs; ⟨v, w', r, stepsIn_wide.2 s⟩

theorem operIn_of {l n : Nat} {o : Oper} {a : Act} {w : World} {K : Act → World → Prop} (hnd : ∀ c, o.op ≠ .defer c) (h : o.wp P a w K Q) : o.wpIn (Fence.wide.inRound l) n P a w K Q := by
  unfold Oper.wp at h
  unfold Oper.wpIn
  refine ⟨fun _ _ => trivial, ?_⟩
  rw [Oper.semAt_eq _ _ _ hnd]
  generalize (execOp a.eval o).run P w = r at *
  cases r with
  | ok x w' =>
    cases x with
    | value v => exact h
    | skip => exact h
    | defer d => exact h
    | enter f args => exact ⟨fun hd => by simp [Fence.wide] at hd, CallsIn.inRound l (callsIn_wide.2 h)⟩
    | row row args => exact ⟨fun hd => by simp [Fence.wide] at hd, rowsIn_of h⟩
    | _ => exact h.elim
  | halt x w' =>
    cases x with
    | panic v => exact h
    | _ => exact h.elim

theorem opsIn_of {l n : Nat} (hL : ¬ LetsOut Q) (hnd : ∀ (i : Nat) (o : Oper), ops[i]? = some o → ∀ c, o.op ≠ .defer c) : ∀ (is : List Nat) (a : Act) (w : World), wpOps P ops Q is a w → wpOpsIn (Fence.wide.inRound l) n P ops Q is a w
  | [], _, _, h => h
  | i :: rest, a, w, h => by
    unfold wpOps at h
    unfold wpOpsIn
    cases ho : ops[i]? with
    | none => simp only [ho] at h ⊢; exact opsIn_of hL hnd rest a w h
    | some o =>
      simp only [ho] at h ⊢
      by_cases hw : Region.wanted o (yielded ops a.tmps) = true
      · simp only [hw, if_true] at h ⊢
        rcases h with h | ⟨_, h⟩
        · exact Oper.wpIn_mono (fun a' w' h' => opsIn_of hL hnd rest a' w' h') (operIn_of (hnd i o ho) h)
        · exact absurd h hL
      · simp only [hw] at h ⊢
        exact ⟨fun _ _ => trivial, opsIn_of hL hnd rest _ w h⟩

def noDefer (ops : Array Oper) : Bool := ops.toList.all fun o => match o.op with | .defer _ => false | _ => true
theorem noDefer_spec (h : noDefer ops = true) (i : Nat) (o : Oper) (ho : ops[i]? = some o) (c : Call) : o.op ≠ .defer c := fun e => by
  have hm : o ∈ ops.toList := by
    have := Array.mem_of_getElem? ho
    simpa using this
  have := List.all_eq_true.1 h o hm
  rw [e] at this
  cases this

/-- A region that draws, in a round: begun as outside one. -/
theorem startR_ {S : World → Prop} {ds : List Nat} {r id n m : Nat} {a : Act} {w : World} (l : Array Bool) (hL : ¬ LetsOut Q) (hnd : noDefer ops = true) (hm : P.follows .mixedOrders = true) (hn : ops.size = n) (hl : Array.replicate n false = l) (hS : S w.drew)
    (h : S w.drew → wpAnyLast P .any ops Q S ds n l a w.drew) : (Code.region id ops true).wpIn (Fence.wide.inRound r) m P Q a w := by
  subst hn
  subst hl
  refine wpIn_region_draw fun t => ?_
  simp only [Region.schedule, hm, Bool.true_or, if_true]
  exact opsIn_of hL (noDefer_spec hnd) _ _ _ (wpAny_sound ops.size t _ a _ (wpAny_of_last _ _ _ _ (h hS)))
end
end Go.Proofs.Ythimbpoeoegehaa.Aid
