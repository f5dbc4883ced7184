/-
  Functions without a body: internal/bytealg.IndexByteString, CountString.
-/
import Derived.Test.YtgelbhclfnpedaaGreatDoorWCE
import Derived.Lib.Bytealg
set_option linter.all false
set_option linter.unusedVariables false
set_option linter.unusedSimpArgs false
namespace Go.Sl
open Go
section
variable {P : Program}
theorem ext_run {i : FuncId} {fn : Func} {e : Array Value → Sem Value} (hf : P.funcs[i]? = some fn) (hb : fn.body.isNone = true) (hn : (fn.name == "runtime.NumGoroutine") = false) (h1 : (Extern.findNext fn).isNone = true)
    (h2 : Extern.find fn = some e) {args : Array Value} {v : Value} {w : World} (hr : (e args).run P w = .ok v w) : (callFunc i args).run P w = .ok (.value v) w := by
  have h1' : Extern.findNext fn = none := by cases h : Extern.findNext fn with | none => rfl | some x => rw [h] at h1; cases h1
  unfold callFunc
  rw [Sem.run_bind, run_program, Result.andThen_ok, hf]
  dsimp only
  simp only [hn, hb, if_true, Bool.false_eq_true, if_false]
  rw [Sem.run_bind]
  rw [show (mark (.extern i)).run P w = .ok () w from rfl, Result.andThen_ok, h1']
  dsimp only
  rw [h2]
  dsimp only
  rw [Sem.run_bind, hr]; rfl
noncomputable def idxByteE (args : List AV) (H : AH) (k : AV → AH → Bool) : Bool := match args with
  | [.v (.string s), .v (.int .u8 c)] => forceI (Lib.indexByte s.data.toList c.toNat.toUInt8) fun n => k (.v (.int .i64 n)) H
  | _ => false
noncomputable def countByteE (args : List AV) (H : AH) (k : AV → AH → Bool) : Bool := match args with
  | [.v (.string s), .v (.int .u8 c)] => forceI (Lib.countByte s.data.toList c.toNat.toUInt8) fun n => k (.v (.int .i64 n)) H
  | _ => false
theorem idxByteE_ok {i : FuncId} (hx : ∀ args v w, (Extern.BytealgIndexByte.indexByte args).run P w = .ok v w → (callFunc i args).run P w = .ok (.value v) w)
    (args : List AV) (args' : List Value) (H : AH) (h : Hp) (ρ : Names) (k : AV → AH → Bool) (kk : Value → Hp → Prop) (e : idxByteE args H k = true) (r : Rel ρ H h) (g : RL ρ args args') (ok : Ok ρ k kk) : EnterA P i args' h kk := by
  unfold idxByteE at e
  split at e
  · rename_i s c
    rw [forceI_eq] at e
    obtain ⟨v, u, rfl, g1, g2⟩ := g.two
    cases g1; cases g2
    exact .inr ⟨_, fun w => hx _ _ w (Lib.run_indexByteString s c w), ok.here r (.v _) e⟩
  · cases e
theorem countByteE_ok {i : FuncId} (hx : ∀ args v w, (Extern.BytealgCount.count args).run P w = .ok v w → (callFunc i args).run P w = .ok (.value v) w)
    (args : List AV) (args' : List Value) (H : AH) (h : Hp) (ρ : Names) (k : AV → AH → Bool) (kk : Value → Hp → Prop) (e : countByteE args H k = true) (r : Rel ρ H h) (g : RL ρ args args') (ok : Ok ρ k kk) : EnterA P i args' h kk := by
  unfold countByteE at e
  split at e
  · rename_i s c
    rw [forceI_eq] at e
    obtain ⟨v, u, rfl, g1, g2⟩ := g.two
    cases g1; cases g2
    exact .inr ⟨_, fun w => hx _ _ w (Lib.run_countString s c w), ok.here r (.v _) e⟩
  · cases e
end
end Go.Sl
