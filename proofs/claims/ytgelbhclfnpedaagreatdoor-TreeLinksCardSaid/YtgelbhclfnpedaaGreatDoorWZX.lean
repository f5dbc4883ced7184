/-
  What the walks of the laws share.
-/
import Derived.Test.YtgelbhclfnpedaaGreatDoorWY1
set_option linter.all false
set_option linter.unusedVariables false
set_option linter.unusedSimpArgs false
set_option maxRecDepth 1000000
namespace Go.Sl
open Go Go.Proofs Go.RowKit
def remOk (d n : Nat) : Bool := match arithV .rem (.int .u8 (Int.ofNat n)) (.int .u8 (Int.ofNat d)) with
  | some (.int .u8 (.ofNat m)) => Nat.beq m (n % d)
  | _ => false
theorem remOk_eq {d n : Nat} (h : remOk d n = true) : arithV .rem (.int .u8 (Int.ofNat n)) (.int .u8 (Int.ofNat d)) = some (.int .u8 (Int.ofNat (n % d))) := by
  unfold remOk at h
  split at h
  · rename_i m hm
    rw [hm, Nat.eq_of_beq_eq_true h]
  · cases h
theorem bin_rem {d n : Nat} (h : remOk d n = true) (H : AH) (k : K2) : (rc Tryz.prog).bin .rem 5 (.v (.int .u8 (Int.ofNat n))) (.v (.int .u8 (Int.ofNat d))) H k = k (.v (.int .u8 (Int.ofNat (n % d)))) H := by
  show binE Tryz.prog .rem 5 (.v (.int .u8 (Int.ofNat n))) (.v (.int .u8 (Int.ofNat d))) H k = _
  unfold binE
  dsimp only
  rw [arithE_eq, remOk_eq h]
  dsimp only
  rw [forceV_eq]
theorem arg_cons (x : AV) (l : List AV) (f : AV → List AV → Bool) : (rc Tryz.prog).arg (x :: l) f = f x l := rfl
theorem runQ_succ (tab : TabT) (n : Nat) (i : FuncId) (o : Option (List Bool)) (vals : List AV) (H : AH) (k : K2) : runQ tab (n + 1) i o vals H k = (tab i o).run (runQ tab n) vals H k := rfl
theorem below_of_ext {w w' : World} {h0 : Hp} (x : Ext hp0 w h0 w') : Below w.heap.size w w' :=
  { os := x.os, tape := x.tape, output := x.output, block := fun i hi => x.keep i hi (fun _ e => by cases e), size := x.size }
theorem calls_of_enter {P : Program} {i : FuncId} {args : List Value} (hi : fnOk P i = true) (h : EnterA P i args hp0 fun v _ => v = .bool true) (w : World) :
    Calls P i args.toArray w fun e w' => e = .returned (.bool true) ∧ Below w.heap.size w w' := by
  rcases h with ⟨_, hc⟩ | ⟨v, hv, _⟩
  · refine (hc w (.zero w)).mono fun e w' ⟨v, h0, he, hv, _, hx⟩ => ?_
    subst hv
    exact ⟨he, below_of_ext hx⟩
  · have := hv w
    rw [callFunc_run hi] at this
    cases this
theorem runQ_true' {P : Program} {cuts : CutT} {tab : TabT} (hg : ∀ i o, GoodB P cuts i o (tab i o)) {n : Nat} {i : FuncId} {args : List AV} {args' : List Value} (he : runQ tab n i none args ⟨.e, 0⟩ (fun a _ => isTrue a) = true) (g : RL [] args args') :
    EnterA P i args' hp0 fun v _ => v = .bool true :=
  runQ_sound hg n i none args ⟨.e, 0⟩ _ he args' hp0 [] _ rel0 g fun _ _ _ _ _ _ _ g he => isTrue_elim he g
end Go.Sl
