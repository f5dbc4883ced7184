/-
  WalkLoops: for every input it returns true.
-/
import Derived.Test.YtgelbhclfnpedaaGreatDoorWZL1
import Derived.Test.YtgelbhclfnpedaaGreatDoorWZL2
import Derived.Test.YtgelbhclfnpedaaGreatDoorWZL3
import Derived.Test.YtgelbhclfnpedaaGreatDoorWZL4
set_option linter.all false
set_option linter.unusedVariables false
set_option linter.unusedSimpArgs false
set_option maxRecDepth 1000000
namespace Go.Sl
open Go Go.Proofs Go.RowKit
theorem wl_all (m : Nat) (hm : m < 12) (b : Bool) : runQ tabW 1000000000 4 none [.v (.int .u8 (Int.ofNat m)), .v (.bool b)] ⟨.e, 0⟩ (fun a _ => isTrue a) = true := by
  have h : m = 0 ∨ m = 1 ∨ m = 2 ∨ m = 3 ∨ m = 4 ∨ m = 5 ∨ m = 6 ∨ m = 7 ∨ m = 8 ∨ m = 9 ∨ m = 10 ∨ m = 11 := by omega
  rcases h with h | h | h | h | h | h | h | h | h | h | h | h <;> subst h <;> cases b
  · exact wl_0_false
  · exact wl_0_true
  · exact wl_1_false
  · exact wl_1_true
  · exact wl_2_false
  · exact wl_2_true
  · exact wl_3_false
  · exact wl_3_true
  · exact wl_4_false
  · exact wl_4_true
  · exact wl_5_false
  · exact wl_5_true
  · exact wl_6_false
  · exact wl_6_true
  · exact wl_7_false
  · exact wl_7_true
  · exact wl_8_false
  · exact wl_8_true
  · exact wl_9_false
  · exact wl_9_true
  · exact wl_10_false
  · exact wl_10_true
  · exact wl_11_false
  · exact wl_11_true
def remOk (d n : Nat) : Bool := match arithV .rem (.int .u8 (Int.ofNat n)) (.int .u8 (Int.ofNat d)) with
  | some (.int .u8 (.ofNat m)) => Nat.beq m (n % d)
  | _ => false
theorem remOk_eq {d n : Nat} (h : remOk d n = true) : arithV .rem (.int .u8 (Int.ofNat n)) (.int .u8 (Int.ofNat d)) = some (.int .u8 (Int.ofNat (n % d))) := by
  unfold remOk at h
  split at h
  · rename_i m hm
    rw [hm, Nat.eq_of_beq_eq_true h]
  · cases h
theorem rem12_all : (List.range 256).all (remOk 12) = true := by kernel_rfl
theorem bin_rem {d n : Nat} (h : remOk d n = true) (H : AH) (k : K2) : (rc Tryz.prog).bin .rem 5 (.v (.int .u8 (Int.ofNat n))) (.v (.int .u8 (Int.ofNat d))) H k = k (.v (.int .u8 (Int.ofNat (n % d)))) H := by
  show binE Tryz.prog .rem 5 (.v (.int .u8 (Int.ofNat n))) (.v (.int .u8 (Int.ofNat d))) H k = _
  unfold binE
  dsimp only
  rw [arithE_eq, remOk_eq h]
  dsimp only
  rw [forceV_eq]
theorem arg_cons (x : AV) (l : List AV) (f : AV → List AV → Bool) : (rc Tryz.prog).arg (x :: l) f = f x l := rfl
theorem B4_mod (n : Nat) (hn : n < 256) (a : AV) (Q : QT) (H : AH) (k : K2) :
    B_4 (rc Tryz.prog) Q [.v (.int .u8 (Int.ofNat n)), a] H k = B_4 (rc Tryz.prog) Q [.v (.int .u8 (Int.ofNat (n % 12))), a] H k := by
  have h1 : remOk 12 n = true := List.all_eq_true.1 rem12_all n (List.mem_range.2 hn)
  have h2 : remOk 12 (n % 12) = true := List.all_eq_true.1 rem12_all (n % 12) (List.mem_range.2 (by omega))
  have h3 : n % 12 % 12 = n % 12 := Nat.mod_mod _ _
  simp only [B_4, arg_cons, bin_rem h1, bin_rem h2, h3]
theorem tab4 : tabW 4 none = ⟨B_4 (rc Tryz.prog)⟩ := by kernel_rfl
theorem runQ_succ (tab : TabT) (n : Nat) (i : FuncId) (o : Option (List Bool)) (vals : List AV) (H : AH) (k : K2) : runQ tab (n + 1) i o vals H k = (tab i o).run (runQ tab n) vals H k := rfl
theorem wl_step (vals : List AV) (H : AH) (k : K2) : runQ tabW 1000000000 4 none vals H k = B_4 (rc Tryz.prog) (runQ tabW 999999999) vals H k := by
  have h := runQ_succ tabW 999999999 4 none vals H k
  rw [tab4] at h
  exact h
theorem wl_run (n : Nat) (hn : n < 256) (b : Bool) : runQ tabW 1000000000 4 none [.v (.int .u8 (Int.ofNat n)), .v (.bool b)] ⟨.e, 0⟩ (fun a _ => isTrue a) = true := by
  rw [wl_step, B4_mod n hn, ← wl_step]
  exact wl_all _ (Nat.mod_lt _ (by omega)) b
theorem below_of_ext {w w' : World} {h0 : Hp} (x : Ext hp0 w h0 w') : Below w.heap.size w w' :=
  { os := x.os, tape := x.tape, output := x.output, block := fun i hi => x.keep i hi (fun _ e => by cases e), size := x.size }
theorem calls_of_enter {P : Program} {i : FuncId} {args : List Value} (hi : fnOk P i = true) (h : EnterA P i args hp0 fun v _ => v = .bool true) (w : World) :
    Calls P i args.toArray w fun e w' => e = .returned (.bool true) ∧ Below w.heap.size w w' := by
  rcases h with ⟨_, hc⟩ | ⟨v, hv, _⟩
  · refine (hc w (.zero w)).mono fun e w' ⟨v, h0, he, hv, _, hx⟩ => ?_
    subst hv
    exact ⟨he, below_of_ext hx⟩
  · have := hv w
    rw [callFunc_run hi] at this
    cases this
theorem walkLoops_walk (a0 : Int) (a1 : Bool) (h0 : 0 ≤ a0) (h1 : a0 < 256) (w : World) : Calls Tryz.prog 4 #[.int .u8 a0, .bool a1] w fun e w' => e = .returned (.bool true) ∧ Below w.heap.size w w' := by
  obtain ⟨n, rfl⟩ := Int.eq_ofNat_of_zero_le h0
  have hn : n < 256 := by omega
  exact calls_of_enter (by kernel_rfl) (runQ_true tabW_good (args := [.v (.int .u8 (Int.ofNat n)), .v (.bool a1)]) rfl (wl_run n hn a1)) w
end Go.Sl
