/-
  TreeLinks: for every input it returns true.
-/
import Derived.Test.YtgelbhclfnpedaaGreatDoorWZT1
import Derived.Test.YtgelbhclfnpedaaGreatDoorWZT2
import Derived.Test.YtgelbhclfnpedaaGreatDoorWZT3
import Derived.Test.YtgelbhclfnpedaaGreatDoorWZT4
import Derived.Test.YtgelbhclfnpedaaGreatDoorWZX
set_option linter.all false
set_option linter.unusedVariables false
set_option linter.unusedSimpArgs false
set_option maxRecDepth 1000000
namespace Go.Sl
open Go Go.Proofs Go.RowKit
theorem tl_all (m : Nat) (hm : m < 10) (z : AV) (hz : z = .v (.int .u8 0) ∨ z = .po .u8) : runQ tabV 1000000000 9 none [.v (.int .u8 (Int.ofNat m)), z] ⟨.e, 0⟩ (fun a _ => isTrue a) = true := by
  have h : m = 0 ∨ m = 1 ∨ m = 2 ∨ m = 3 ∨ m = 4 ∨ m = 5 ∨ m = 6 ∨ m = 7 ∨ m = 8 ∨ m = 9 := by omega
  rcases h with h | h | h | h | h | h | h | h | h | h <;> subst h <;> rcases hz with hz | hz <;> subst hz
  · exact tl_0_z
  · exact tl_0_p
  · exact tl_1_z
  · exact tl_1_p
  · exact tl_2_z
  · exact tl_2_p
  · exact tl_3_z
  · exact tl_3_p
  · exact tl_4_z
  · exact tl_4_p
  · exact tl_5_z
  · exact tl_5_p
  · exact tl_6_z
  · exact tl_6_p
  · exact tl_7_z
  · exact tl_7_p
  · exact tl_8_z
  · exact tl_8_p
  · exact tl_9_z
  · exact tl_9_p
theorem rem10_all : (List.range 256).all (remOk 10) = true := by kernel_rfl
theorem B9_mod (n : Nat) (hn : n < 256) (a : AV) (Q : QT) (H : AH) (k : K2) :
    B_9 (rc Tryz.prog) Q [.v (.int .u8 (Int.ofNat n)), a] H k = B_9 (rc Tryz.prog) Q [.v (.int .u8 (Int.ofNat (n % 10))), a] H k := by
  have h1 : remOk 10 n = true := List.all_eq_true.1 rem10_all n (List.mem_range.2 hn)
  have h2 : remOk 10 (n % 10) = true := List.all_eq_true.1 rem10_all (n % 10) (List.mem_range.2 (by omega))
  have h3 : n % 10 % 10 = n % 10 := Nat.mod_mod _ _
  simp only [B_9, arg_cons, bin_rem h1, bin_rem h2, h3]
theorem tab9 : tabV 9 none = ⟨B_9 (rc Tryz.prog)⟩ := by kernel_rfl
theorem tl_step (vals : List AV) (H : AH) (k : K2) : runQ tabV 1000000000 9 none vals H k = B_9 (rc Tryz.prog) (runQ tabV 999999999) vals H k := by
  have h := runQ_succ tabV 999999999 9 none vals H k
  rw [tab9] at h
  exact h
theorem tl_run (n : Nat) (hn : n < 256) (z : AV) (hz : z = .v (.int .u8 0) ∨ z = .po .u8) : runQ tabV 1000000000 9 none [.v (.int .u8 (Int.ofNat n)), z] ⟨.e, 0⟩ (fun a _ => isTrue a) = true := by
  rw [tl_step, B9_mod n hn, ← tl_step]
  exact tl_all _ (Nat.mod_lt _ (by omega)) z hz
theorem treeLinks_walk (a0 a1 : Int) (h0 : 0 ≤ a0) (h1 : a0 < 256) (h2 : 0 ≤ a1) (w : World) : Calls Tryz.prog 9 #[.int .u8 a0, .int .u8 a1] w fun e w' => e = .returned (.bool true) ∧ Below w.heap.size w w' := by
  obtain ⟨n, rfl⟩ := Int.eq_ofNat_of_zero_le h0
  have hn : n < 256 := by omega
  refine calls_of_enter (by kernel_rfl) ?_ w
  rcases Int.lt_or_eq_of_le h2 with h | h
  · exact runQ_true' tabV_good (tl_run n hn _ (.inr rfl)) (.cons (.v _) (.cons (.po h) .nil))
  · subst h
    exact runQ_true' tabV_good (tl_run n hn _ (.inl rfl)) (.cons (.v _) (.cons (.v _) .nil))
end Go.Sl
