/-
  A LOGIC OF OUR OWN OVER THE MODEL: heaps as partial maps from block numbers to what is known of a block. Part 1: heaps, what it means that a world fits one, what a piece of a run leaves alone.
-/
import Derived.WalkKit
import Derived.Deep.QuietTactic
import Derived.WalkLawsBesides
import Derived.DeepKeys3
import Derived.WideLaws
import Derived.Laws.Pointers
import Derived.Laws.Cover3
import Derived.Laws.BytesString
set_option linter.all false
set_option linter.unusedVariables false
set_option linter.unusedSimpArgs false
namespace Go.Sl
open Go

/-- What is known of a block: a row of cells (may it be written?), a map, an iterator over a string. -/
inductive Ob where
  | cells (c : List Value) (wr : Bool)
  | map (es : List MapEntry) (clock : Nat)
  | iter (s : ByteArray) (pos : Nat)
  | miter (m : Nat) (since : Nat) (seen : List Nat) (last : Nat)

def Ob.ro : Ob → Prop
  | .cells _ wr => wr = false
  | _ => False

abbrev Hp := Nat → Option Ob
def upd (h : Hp) (b : Nat) (o : Ob) : Hp := fun x => if x = b then some o else h x
def del (h : Hp) (b : Nat) : Hp := fun x => if x = b then none else h x
def Sub (h h' : Hp) : Prop := ∀ b o, h b = some o → h' b = some o

theorem upd_same (h : Hp) (b : Nat) (o : Ob) : upd h b o b = some o := by simp [upd]
theorem upd_other (h : Hp) {b x : Nat} (o : Ob) (e : x ≠ b) : upd h b o x = h x := by simp [upd, e]
theorem del_same (h : Hp) (b : Nat) : del h b b = none := by simp [del]
theorem del_other (h : Hp) {b x : Nat} (e : x ≠ b) : del h b x = h x := by simp [del, e]
theorem upd_upd (h : Hp) (b : Nat) (o o' : Ob) : upd (upd h b o) b o' = upd h b o' := by
  funext x; simp only [upd]; split <;> rfl
theorem upd_id (h : Hp) (b : Nat) (o : Ob) (e : h b = some o) : upd h b o = h := by
  funext x; simp only [upd]; split
  · rename_i hx; rw [hx, e]
  · rfl
theorem Sub.refl (h : Hp) : Sub h h := fun _ _ e => e
theorem Sub.trans {h h' h'' : Hp} (a : Sub h h') (b : Sub h' h'') : Sub h h'' := fun x o e => b x o (a x o e)
theorem Sub.upd_new {h : Hp} {b : Nat} (e : h b = none) (o : Ob) : Sub h (upd h b o) := by
  intro x y hx
  by_cases hb : x = b
  · rw [hb, e] at hx; cases hx
  · rw [upd_other h o hb]; exact hx
theorem Sub.upd_right {h h' : Hp} {b : Nat} (s : Sub h h') (e : h b = none) (o : Ob) : Sub h (upd h' b o) := by
  intro x y hx
  by_cases hb : x = b
  · rw [hb, e] at hx; cases hx
  · rw [upd_other h' o hb]; exact s x y hx
theorem Sub.upd_both {h h' : Hp} (s : Sub h h') (b : Nat) (o : Ob) : Sub (upd h b o) (upd h' b o) := by
  intro x y hx
  simp only [upd] at hx ⊢
  split at hx <;> rename_i c
  · rw [if_pos c]; exact hx
  · rw [if_neg c]; exact s x y hx
theorem Sub.del (h : Hp) (b : Nat) : Sub (del h b) h := by
  intro x y hx
  simp only [Sl.del] at hx
  split at hx
  · cases hx
  · exact hx

def ObRep (x : Go.Obj) : Ob → Prop
  | .cells c wr => ∃ T fr, x = .cells c.toArray T fr ∧ (wr = true → ∀ j, j < c.length → ¬ (fr.1 ≤ j ∧ j < fr.2))
  | .map es cl => x = .map es.toArray cl
  | .iter s p => x = .stringIter s p
  | .miter m a seen l => x = .mapIter (some m) a seen.toArray l

/-- A world fits a heap: what is known of each block is so. -/
def Rep (h : Hp) (w : World) : Prop := ∀ b o, h b = some o → ∃ x, w.heap[b]? = some x ∧ ObRep x o

theorem Rep.sub {h h' : Hp} {w : World} (r : Rep h' w) (s : Sub h h') : Rep h w := fun b o e => r b o (s b o e)
theorem lt_of_some {α : Type} {a : Array α} {b : Nat} {x : α} (e : a[b]? = some x) : b < a.size := by
  rcases Nat.lt_or_ge b a.size with h | h
  · exact h
  · rw [Array.getElem?_eq_none h] at e; cases e
theorem Rep.lt {h : Hp} {w : World} (r : Rep h w) {b : Nat} {o : Ob} (e : h b = some o) : b < w.heap.size := by
  obtain ⟨x, hx, _⟩ := r b o e
  exact lt_of_some hx
theorem Rep.fresh {h : Hp} {w : World} (r : Rep h w) : h w.heap.size = none := by
  cases e : h w.heap.size with
  | none => rfl
  | some o => exact absurd (r.lt e) (Nat.lt_irrefl _)

/-- What a piece of a run leaves alone: all blocks that the heap does not let be written. -/
structure Ext (h : Hp) (w : World) (h' : Hp) (w' : World) : Prop where
  size : w.heap.size ≤ w'.heap.size
  keep : ∀ b, b < w.heap.size → (∀ o, h b = some o → o.ro) → w'.heap[b]? = w.heap[b]?
  new : ∀ b o, h' b = some o → h b ≠ none ∨ w.heap.size ≤ b
  ro : ∀ b o o', b < w.heap.size → h b = some o → o.ro → h' b = some o' → o'.ro
  tape : w'.tape = w.tape
  os : w'.os = w.os
  output : w'.output = w.output

theorem Ext.refl (h : Hp) (w : World) : Ext h w h w :=
  ⟨Nat.le_refl _, fun _ _ _ => rfl, fun _ _ e => .inl (by rw [e]; simp), fun _ _ _ _ e r e' => by rw [e] at e'; cases e'; exact r, rfl, rfl, rfl⟩
theorem Ext.trans {h h1 h2 : Hp} {w w1 w2 : World} (a : Ext h w h1 w1) (b : Ext h1 w1 h2 w2) : Ext h w h2 w2 where
  size := Nat.le_trans a.size b.size
  keep := by
    intro x hx hr
    rw [b.keep x (Nat.lt_of_lt_of_le hx a.size) ?_, a.keep x hx hr]
    intro o1 h1x
    rcases a.new x o1 h1x with hn | hn
    · cases e : h x with
      | none => exact absurd e hn
      | some o => exact a.ro x o o1 hx e (hr o e) h1x
    · exact absurd hx (Nat.not_lt.2 hn)
  new := by
    intro x o h2x
    rcases b.new x o h2x with hn | hn
    · cases e : h1 x with
      | none => exact absurd e hn
      | some o1 => exact a.new x o1 e
    · exact .inr (Nat.le_trans a.size hn)
  ro := by
    intro x o o2 hx e r e2
    rcases b.new x o2 e2 with hn | hn
    · cases e1 : h1 x with
      | none => exact absurd e1 hn
      | some o1 => exact b.ro x o1 o2 (Nat.lt_of_lt_of_le hx a.size) e1 (a.ro x o o1 hx e r e1) e2
    · exact absurd (Nat.lt_of_lt_of_le hx a.size) (Nat.not_lt.2 hn)
  tape := b.tape.trans a.tape
  os := b.os.trans a.os
  output := b.output.trans a.output
theorem Ext.sub {h h' h'' : Hp} {w w' : World} (a : Ext h w h' w') (s : Sub h'' h') : Ext h w h'' w' :=
  ⟨a.size, a.keep, fun b o e => a.new b o (s b o e), fun b o o' hb e r e' => a.ro b o o' hb e r (s b o' e'), a.tape, a.os, a.output⟩

/-- A new block. -/
theorem Rep.alloc {h : Hp} {w : World} (r : Rep h w) {x : Go.Obj} {o : Ob} (hx : ObRep x o) : Rep (upd h w.heap.size o) (w.alloc x) := by
  intro b o' e
  simp only [upd] at e
  split at e
  · rename_i hb; cases e; subst hb
    exact ⟨x, by show (w.heap.push x)[w.heap.size]? = _; simp, hx⟩
  · obtain ⟨y, hy, hr⟩ := r b o' e
    exact ⟨y, by rw [World.alloc, Array.getElem?_push, if_neg (Nat.ne_of_lt (lt_of_some hy)), hy], hr⟩
theorem Ext.alloc (h : Hp) (w : World) (x : Go.Obj) (o : Ob) : Ext h w (upd h w.heap.size o) (w.alloc x) where
  size := by rw [World.size_alloc]; omega
  keep := by intro b hb _; rw [World.alloc, Array.getElem?_push, if_neg (Nat.ne_of_lt hb)]
  new := by
    intro b o' e
    simp only [upd] at e
    split at e
    · rename_i hb; exact .inr (by rw [hb]; exact Nat.le_refl _)
    · exact .inl (by rw [e]; simp)
  ro := by
    intro b o' o'' hb e rr e'
    rw [upd_other h o (Nat.ne_of_lt hb), e] at e'
    cases e'; exact rr
  tape := rfl
  os := rfl
  output := rfl

/-- One written cell. -/
theorem Rep.set {h : Hp} {w : World} (r : Rep h w) {b i : Nat} {c : List Value} (e : h b = some (.cells c true)) (v : Value) :
    Rep (upd h b (.cells (c.set i v) true)) (w.setCell ⟨b, i, none⟩ v) := by
  intro x o hx
  simp only [upd] at hx
  split at hx
  · rename_i hb; cases hx; subst hb
    obtain ⟨y, hy, T, fr, rfl, hf⟩ := r x _ e
    refine ⟨.cells (c.set i v).toArray T fr, ?_, T, fr, rfl, ?_⟩
    · show (w.heap.modify x _)[x]? = _
      rw [Array.getElem?_modify, if_pos rfl, hy]; simp
    · intro _ j hj; exact hf rfl j (by simpa using hj)
  · rename_i hb
    obtain ⟨y, hy, hr⟩ := r x o hx
    exact ⟨y, by rw [World.setCell, Array.getElem?_modify, if_neg (Ne.symm hb)]; exact hy, hr⟩
theorem Ext.set {h : Hp} (w : World) {b i : Nat} {c : List Value} (e : h b = some (.cells c true)) (v : Value) (c' : List Value) :
    Ext h w (upd h b (.cells c' true)) (w.setCell ⟨b, i, none⟩ v) where
  size := by simp
  keep := by
    intro x _ hr
    by_cases hb : b = x
    · subst hb; exact absurd (hr _ e) (by simp [Ob.ro])
    · rw [World.setCell, Array.getElem?_modify, if_neg hb]
  new := by
    intro x o hx
    simp only [upd] at hx
    split at hx
    · rename_i hb; exact .inl (by rw [hb, e]; simp)
    · exact .inl (by rw [hx]; simp)
  ro := by
    intro x o o' _ hx rr hx'
    by_cases hb : x = b
    · subst hb; rw [e] at hx; cases hx; exact absurd rr (by simp [Ob.ro])
    · rw [upd_other h _ hb, hx] at hx'; cases hx'; exact rr
  tape := rfl
  os := rfl
  output := rfl
theorem Rep.drew {h : Hp} {w : World} (r : Rep h w) (n : Nat) : Rep h { w with drawn := n } := fun b o e => r b o e
theorem Ext.drew (h : Hp) (w : World) (n : Nat) : Ext h w h { w with drawn := n } :=
  ⟨Nat.le_refl _, fun _ _ _ => rfl, fun _ _ e => .inl (by rw [e]; simp), fun _ _ _ _ e r e' => by rw [e] at e'; cases e'; exact r, rfl, rfl, rfl⟩

/-- Another object for one that is no row of cells. -/
theorem Rep.setObj {h : Hp} {w : World} (r : Rep h w) {b : Nat} {o : Ob} (x : Go.Obj) (hx : ObRep x o) (hb : b < w.heap.size) :
    Rep (upd h b o) { w with heap := w.heap.setIfInBounds b x } := by
  intro y o' e
  simp only [upd] at e
  split at e
  · rename_i hy; cases e; subst hy
    exact ⟨x, by simp [hb], hx⟩
  · rename_i hy
    obtain ⟨z, hz, hr⟩ := r y o' e
    exact ⟨z, by rw [Array.getElem?_setIfInBounds_ne (Ne.symm hy)]; exact hz, hr⟩
theorem Ext.setObj {h : Hp} (w : World) {b : Nat} {o o' : Ob} (e : h b = some o) (hw : ¬ o.ro) (x : Go.Obj) :
    Ext h w (upd h b o') { w with heap := w.heap.setIfInBounds b x } where
  size := by simp
  keep := by
    intro y _ hr
    by_cases hb : b = y
    · subst hb; exact absurd (hr _ e) hw
    · simp [Array.getElem?_setIfInBounds_ne hb]
  new := by
    intro y o2 hy
    simp only [upd] at hy
    split at hy
    · rename_i hb; exact .inl (by rw [hb, e]; simp)
    · exact .inl (by rw [hy]; simp)
  ro := by
    intro y o2 o3 _ hy rr hy'
    by_cases hb : y = b
    · subst hb; rw [e] at hy; cases hy; exact absurd rr hw
    · rw [upd_other h _ hb, hy] at hy'; cases hy'; exact rr
  tape := rfl
  os := rfl
  output := rfl

/-- What is known of a cell. -/
theorem Rep.cell {h : Hp} {w : World} (r : Rep h w) {b i : Nat} {c : List Value} {wr : Bool} (e : h b = some (.cells c wr)) :
    w.cell? ⟨b, i, none⟩ = c[i]? := by
  obtain ⟨y, hy, T, fr, rfl, _⟩ := r b _ e
  simp [World.cell?, hy]
theorem Rep.free {h : Hp} {w : World} (r : Rep h w) {b i : Nat} {c : List Value} (e : h b = some (.cells c true)) (hi : i < c.length) :
    w.frozen? ⟨b, i, none⟩ = false := by
  obtain ⟨y, hy, T, fr, rfl, hf⟩ := r b _ e
  have := hf rfl i hi
  simp only [World.frozen?, hy]
  simp only [Bool.and_eq_false_iff, decide_eq_false_iff_not]
  omega
end Go.Sl
/-
  Part 2: what a computation of the model comes to over a heap; its rules.
-/
namespace Go.Sl
open Go
section
variable {P : Program} {α β : Type} {h : Hp}

/-- From each world that fits the heap the computation comes, without a stop, to a value and a heap of which k holds. -/
def SemA (P : Program) (s : Sem α) (h : Hp) (k : α → Hp → Prop) : Prop :=
  ∀ w, Rep h w → ∃ a h' w', s.run P w = .ok a w' ∧ k a h' ∧ Rep h' w' ∧ Ext h w h' w'

theorem SemA.pure {a : α} {k : α → Hp → Prop} (hk : k a h) : SemA P (Pure.pure a) h k :=
  fun w r => ⟨a, h, w, rfl, hk, r, .refl h w⟩
theorem SemA.pure' {a : α} {k : α → Hp → Prop} (hk : k a h) : SemA P (Sem.pure a) h k :=
  fun w r => ⟨a, h, w, rfl, hk, r, .refl h w⟩
theorem SemA.bind {s : Sem α} {f : α → Sem β} {k : β → Hp → Prop} (hs : SemA P s h fun a h' => SemA P (f a) h' k) : SemA P (s >>= f) h k := by
  intro w r
  obtain ⟨a, h1, w1, e1, k1, r1, x1⟩ := hs w r
  obtain ⟨b, h2, w2, e2, k2, r2, x2⟩ := k1 w1 r1
  exact ⟨b, h2, w2, by rw [Sem.run_bind, e1]; exact e2, k2, r2, x1.trans x2⟩
theorem SemA.map {s : Sem α} {f : α → β} {k : β → Hp → Prop} (hs : SemA P s h fun a h' => k (f a) h') : SemA P (f <$> s) h k := by
  intro w r
  obtain ⟨a, h1, w1, e1, k1, r1, x1⟩ := hs w r
  exact ⟨f a, h1, w1, by rw [Sem.run_map, e1]; rfl, k1, r1, x1⟩
theorem SemA.mono {s : Sem α} {k k' : α → Hp → Prop} (hs : SemA P s h k) (hk : ∀ a h', k a h' → k' a h') : SemA P s h k' := by
  intro w r
  obtain ⟨a, h1, w1, e1, k1, r1, x1⟩ := hs w r
  exact ⟨a, h1, w1, e1, hk _ _ k1, r1, x1⟩
/-- A computation that comes to the same value in every world, and turns none. -/
theorem SemA.of_run {s : Sem α} {a : α} {k : α → Hp → Prop} (hs : ∀ w, s.run P w = .ok a w) (hk : k a h) : SemA P s h k :=
  fun w r => ⟨a, h, w, hs w, hk, r, .refl h w⟩

theorem SemA.load {b i : Nat} {c : List Value} {wr : Bool} {v : Value} {m : Mode} {k : Value → Hp → Prop}
    (e : h b = some (.cells c wr)) (hv : c[i]? = some v) (hk : k v h) : SemA P (Go.load ⟨b, i, none⟩ m) h k := by
  intro w r
  refine ⟨v, h, w, ?_, hk, r, .refl h w⟩
  rw [run_load, r.cell e, hv]
def one : Value → Bool
  | .agg _ | .tuple _ => false
  | _ => true
theorem SemA.store {b i : Nat} {c : List Value} {v : Value} {m : Mode} {k : Unit → Hp → Prop}
    (e : h b = some (.cells c true)) (hi : i < c.length) (hv : one v = true) (hk : k () (upd h b (.cells (c.set i v) true))) : SemA P (Go.store ⟨b, i, none⟩ v m) h k := by
  intro w r
  refine ⟨(), _, _, ?_, hk, r.set e v, .set w e v _⟩
  have hc : w.cell? ⟨b, i, none⟩ = some c[i] := by rw [r.cell e]; simp [hi]
  rw [run_store P w _ v m (by cases v <;> first | rfl | cases hv), hc]
  simp only [r.free e hi]; rfl
theorem SemA.newObj {x : Go.Obj} {o : Ob} {k : Nat → Hp → Prop} (hx : ObRep x o) (hk : ∀ b, h b = none → k b (upd h b o)) : SemA P (Go.newObj x) h k :=
  fun w r => ⟨_, _, w.alloc x, rfl, hk _ r.fresh, r.alloc hx, .alloc h w x o⟩
theorem SemA.choose {q : Question} {k : Nat → Hp → Prop} (hk : ∀ n, k n h) : SemA P (Go.choose q) h k := by
  intro w r
  rw [run_choose]
  split
  · exact ⟨_, h, w, rfl, hk _, r, .refl h w⟩
  · exact ⟨_, h, _, rfl, hk _, r.drew _, .drew h w _⟩
theorem SemA.choose_cut {q : Question} {k : Nat → Hp → Prop} (hk : ∀ n, (q.forced = true → n = 0) → (q.forced = false → ∃ t, n = q.cut t) → k n h) : SemA P (Go.choose q) h k := by
  intro w r
  rw [run_choose]
  split
  · rename_i hf; exact ⟨_, h, w, rfl, hk _ (fun _ => rfl) (fun e => by rw [hf] at e; cases e), r, .refl h w⟩
  · rename_i hf; exact ⟨_, h, _, rfl, hk _ (fun e => absurd e hf) (fun _ => ⟨_, rfl⟩), r.drew _, .drew h w _⟩
theorem SemA.program {k : Program → Hp → Prop} (hk : k P h) : SemA P Go.program h k := SemA.of_run (fun _ => rfl) hk
theorem SemA.mark {m : Mark} {k : Unit → Hp → Prop} (hk : k () h) : SemA P (Go.mark m) h k := SemA.of_run (fun _ => rfl) hk
theorem SemA.askRoom {n : Nat} {k : Unit → Hp → Prop} (hk : k () h) : SemA P (Go.askRoom n) h k := SemA.of_run (fun w => run_askRoom P w n) hk
theorem SemA.underlying {t : TypeId} {d : TypeDesc} {k : TypeDesc → Hp → Prop} (e : P.underlying t = some d) (hk : k d h) : SemA P (Go.underlying t) h k :=
  SemA.of_run (run_underlying e) hk
theorem SemA.typeInfo {t : TypeId} {d : TypeInfo} {k : TypeInfo → Hp → Prop} (e : P.info? t = some d) (hk : k d h) : SemA P (Go.typeInfo t) h k :=
  SemA.of_run (fun w => by simp [Go.typeInfo, e]) hk
theorem SemA.zeroValue {t : TypeId} {d : TypeInfo} {z : Value} {k : Value → Hp → Prop} (e : P.info? t = some d) (hz : d.zero = some z) (hk : k z h) : SemA P (Go.zeroValue t) h k :=
  SemA.of_run (fun w => by simp [Go.zeroValue, Go.typeInfo, e, hz]) hk
theorem SemA.sizeOf {t : TypeId} {d : TypeInfo} {k : Nat → Hp → Prop} (e : P.info? t = some d) (hk : k d.size h) : SemA P (Go.sizeOf t) h k :=
  SemA.of_run (fun w => by simp [Go.sizeOf, Go.typeInfo, e]) hk
def isAggD : TypeDesc → Bool
  | .struct _ | .array _ _ => true
  | _ => false
theorem SemA.isAgg {t : TypeId} {d : TypeDesc} {k : Bool → Hp → Prop} (e : P.underlying t = some d) (hk : k (isAggD d) h) : SemA P (Go.isAgg t) h k :=
  SemA.of_run (fun w => by unfold Go.isAgg; rw [Sem.run_bind, run_underlying e w]; cases d <;> rfl) hk
theorem SemA.getMap {r : Nat} {es : List MapEntry} {cl : Nat} {k : Go.Obj → Hp → Prop} (e : h r = some (.map es cl)) (hk : k (.map es.toArray cl) h) : SemA P (Go.getObj r) h k := by
  intro w rp
  obtain ⟨x, hx, hr⟩ := rp r _ e
  simp only [ObRep] at hr; subst hr
  exact ⟨_, h, w, by simp [Go.getObj, Sem.run, hx], hk, rp, .refl h w⟩
theorem SemA.getIter {r : Nat} {s : ByteArray} {p : Nat} {k : Go.Obj → Hp → Prop} (e : h r = some (.iter s p)) (hk : k (.stringIter s p) h) : SemA P (Go.getObj r) h k := by
  intro w rp
  obtain ⟨x, hx, hr⟩ := rp r _ e
  simp only [ObRep] at hr; subst hr
  exact ⟨_, h, w, by simp [Go.getObj, Sem.run, hx], hk, rp, .refl h w⟩
theorem SemA.setMap {r : Nat} {es es' : List MapEntry} {cl cl' : Nat} {k : Unit → Hp → Prop} (e : h r = some (.map es cl))
    (hk : k () (upd h r (.map es' cl'))) : SemA P (Go.setObj r (.map es'.toArray cl')) h k := by
  intro w rp
  obtain ⟨x, hx, hr⟩ := rp r _ e
  simp only [ObRep] at hr; subst hr
  refine ⟨(), _, _, ?_, hk, rp.setObj _ rfl (rp.lt e), .setObj w e (by simp [Ob.ro]) _⟩
  simp [Go.setObj, Sem.run, hx]
theorem SemA.setIter {r : Nat} {s s' : ByteArray} {p p' : Nat} {k : Unit → Hp → Prop} (e : h r = some (.iter s p))
    (hk : k () (upd h r (.iter s' p'))) : SemA P (Go.setObj r (.stringIter s' p')) h k := by
  intro w rp
  obtain ⟨x, hx, hr⟩ := rp r _ e
  simp only [ObRep] at hr; subst hr
  refine ⟨(), _, _, ?_, hk, rp.setObj _ rfl (rp.lt e), .setObj w e (by simp [Ob.ro]) _⟩
  simp [Go.setObj, Sem.run, hx]
/-- From each world that fits the heap the computation comes to one and the same value, and leaves that world as it is. -/
def QA (P : Program) (s : Sem α) (h : Hp) (k : α → Prop) : Prop := ∃ a, k a ∧ ∀ w, Rep h w → s.run P w = .ok a w
theorem QA.sem {s : Sem α} {k : α → Hp → Prop} (q : QA P s h fun a => k a h) : SemA P s h k := by
  obtain ⟨a, hk, hr⟩ := q
  exact fun w r => ⟨a, h, w, hr w r, hk, r, .refl h w⟩
theorem QA.pure {a : α} {k : α → Prop} (hk : k a) : QA P (Pure.pure a) h k := ⟨a, hk, fun _ _ => rfl⟩
theorem QA.bind {s : Sem α} {f : α → Sem β} {k : β → Prop} (hs : QA P s h fun a => QA P (f a) h k) : QA P (s >>= f) h k := by
  obtain ⟨a, ⟨b, hk, hb⟩, ha⟩ := hs
  exact ⟨b, hk, fun w r => by rw [Sem.run_bind, ha w r]; exact hb w r⟩
theorem QA.mono {s : Sem α} {k k' : α → Prop} (hs : QA P s h k) (hk : ∀ a, k a → k' a) : QA P s h k' :=
  let ⟨a, h1, h2⟩ := hs; ⟨a, hk a h1, h2⟩
theorem QA.of_run {s : Sem α} {a : α} {k : α → Prop} (hs : ∀ w, s.run P w = .ok a w) (hk : k a) : QA P s h k := ⟨a, hk, fun w _ => hs w⟩
theorem QA.load {b i : Nat} {c : List Value} {wr : Bool} {v : Value} {m : Mode} {k : Value → Prop}
    (e : h b = some (.cells c wr)) (hv : c[i]? = some v) (hk : k v) : QA P (Go.load ⟨b, i, none⟩ m) h k :=
  ⟨v, hk, fun w r => by rw [run_load, r.cell e, hv]⟩
theorem QA.program {k : Program → Prop} (hk : k P) : QA P Go.program h k := QA.of_run (fun _ => rfl) hk
theorem QA.underlying {t : TypeId} {d : TypeDesc} {k : TypeDesc → Prop} (e : P.underlying t = some d) (hk : k d) : QA P (Go.underlying t) h k :=
  QA.of_run (run_underlying e) hk
theorem QA.typeInfo {t : TypeId} {d : TypeInfo} {k : TypeInfo → Prop} (e : P.info? t = some d) (hk : k d) : QA P (Go.typeInfo t) h k :=
  QA.of_run (fun w => by simp [Go.typeInfo, e]) hk
theorem QA.zeroValue {t : TypeId} {d : TypeInfo} {z : Value} {k : Value → Prop} (e : P.info? t = some d) (hz : d.zero = some z) (hk : k z) : QA P (Go.zeroValue t) h k :=
  QA.of_run (fun w => by simp [Go.zeroValue, Go.typeInfo, e, hz]) hk
theorem QA.sizeOf {t : TypeId} {d : TypeInfo} {k : Nat → Prop} (e : P.info? t = some d) (hk : k d.size) : QA P (Go.sizeOf t) h k :=
  QA.of_run (fun w => by simp [Go.sizeOf, Go.typeInfo, e]) hk
theorem QA.isAgg {t : TypeId} {d : TypeDesc} {k : Bool → Prop} (e : P.underlying t = some d) (hk : k (isAggD d)) : QA P (Go.isAgg t) h k :=
  QA.of_run (fun w => by unfold Go.isAgg; rw [Sem.run_bind, run_underlying e w]; cases d <;> rfl) hk
theorem QA.getMap {r : Nat} {es : List MapEntry} {cl : Nat} {k : Go.Obj → Prop} (e : h r = some (.map es cl)) (hk : k (.map es.toArray cl)) : QA P (Go.getObj r) h k := by
  refine ⟨_, hk, fun w rp => ?_⟩
  obtain ⟨x, hx, hr⟩ := rp r _ e
  simp only [ObRep] at hr; subst hr
  simp [Go.getObj, Sem.run, hx]
theorem loadCells_run {b o n : Nat} {c : List Value} {wr : Bool} {w : World} (r : Rep h w) (hc : h b = some (.cells c wr)) (hl : o + n ≤ c.length) :
    (loadCells ⟨b, o, none⟩ n).run P w = .ok ((c.drop o).take n).toArray w := by
  have hadd : ∀ j, (⟨b, o, none⟩ : Addr).add j = ⟨b, o + j, none⟩ := by intro j; unfold Addr.add; split <;> simp_all
  have := run_loadCells_list (P := P) w ⟨b, o, none⟩ ((c.drop o).take n) (fun j v hv => by
    rw [hadd, r.cell hc]
    rw [List.getElem?_take] at hv
    split at hv
    · rw [List.getElem?_drop] at hv; exact hv
    · cases hv)
  rwa [List.length_take, List.length_drop, Nat.min_eq_left (by omega)] at this
theorem QA.loadCells {b o n : Nat} {c : List Value} {wr : Bool} (e : h b = some (.cells c wr)) {k : Array Value → Prop} (hl : o + n ≤ c.length)
    (hk : k ((c.drop o).take n).toArray) : QA P (Go.loadCells ⟨b, o, none⟩ n) h k := ⟨_, hk, fun _ r => loadCells_run r e hl⟩

/-- A row of cells, read. -/
theorem SemA.loadCellsFrom {b : Nat} {c : List Value} {wr : Bool} (e : h b = some (.cells c wr)) (o : Nat) {k : Array Value → Hp → Prop} :
    ∀ (n i : Nat) (acc : Array Value), o + i + n ≤ c.length → k (acc ++ ((c.drop (o + i)).take n).toArray) h →
      SemA P (Go.loadCellsFrom ⟨b, o, none⟩ i n acc) h k := by
  intro n
  induction n with
  | zero => intro i acc _ hk; simp only [Go.loadCellsFrom]; exact .pure (by simpa using hk)
  | succ n ih =>
    intro i acc hl hk
    simp only [Go.loadCellsFrom]
    refine .bind ?_
    have ha : (⟨b, o, none⟩ : Addr).add i = ⟨b, o + i, none⟩ := by unfold Addr.add; split <;> simp_all
    have hlt : o + i < c.length := by omega
    rw [ha]
    refine .load e (v := c[o + i]) (by simp [hlt]) (ih (i + 1) _ (by omega) ?_)
    have hd : c.drop (o + i) = c[o + i] :: c.drop (o + (i + 1)) := by
      rw [List.drop_eq_getElem_cons hlt]; rfl
    rw [hd] at hk
    simpa using hk
theorem SemA.loadCells {b o n : Nat} {c : List Value} {wr : Bool} (e : h b = some (.cells c wr)) {k : Array Value → Hp → Prop} (hl : o + n ≤ c.length)
    (hk : k ((c.drop o).take n).toArray h) : SemA P (Go.loadCells ⟨b, o, none⟩ n) h k :=
  SemA.loadCellsFrom e o n 0 #[] (by omega) (by simpa using hk)

/-- A list laid over another one from a place on. -/
def over (c : List Value) (o : Nat) (l : List Value) : List Value := c.take o ++ l ++ c.drop (o + l.length)
theorem over_nil (c : List Value) (o : Nat) : over c o [] = c := by simp [over]
theorem over_length (c : List Value) (o : Nat) (l : List Value) (hl : o + l.length ≤ c.length) : (over c o l).length = c.length := by
  simp [over]; omega
theorem over_cons (c : List Value) (o : Nat) (v : Value) (l : List Value) (hl : o < c.length) : over c o (v :: l) = over (c.set o v) (o + 1) l := by
  have h1 : (c.set o v).take (o + 1) = c.take o ++ [v] := by
    rw [List.take_succ_eq_append_getElem (by simpa using hl)]
    simp [List.take_set_of_le (Nat.le_refl o)]
  have h2 : (c.set o v).drop (o + 1 + l.length) = c.drop (o + 1 + l.length) := by
    rw [List.drop_set_of_lt (by omega)]
  simp only [over, h1, h2, List.length_cons]
  simp only [List.append_assoc, List.cons_append, List.nil_append]
  rw [show o + (l.length + 1) = o + 1 + l.length by omega]
theorem SemA.storeCells {b : Nat} (o : Nat) {k : Unit → Hp → Prop} : ∀ (l : List Value) (i : Nat) (h : Hp) (c : List Value), h b = some (.cells c true) → o + i + l.length ≤ c.length → l.all one = true →
      k () (upd h b (.cells (over c (o + i) l) true)) → SemA P (Go.storeCells ⟨b, o, none⟩ l i) h k := by
  intro l
  induction l with
  | nil =>
    intro i h c e _ _ hk
    simp only [Go.storeCells]
    rw [over_nil, upd_id h b _ e] at hk
    exact .pure hk
  | cons v l ih =>
    intro i h c e hl ho hk
    simp only [Go.storeCells]
    refine .bind ?_
    have ha : (⟨b, o, none⟩ : Addr).add i = ⟨b, o + i, none⟩ := by unfold Addr.add; split <;> simp_all
    simp only [List.length_cons] at hl
    simp only [List.all_cons, Bool.and_eq_true] at ho
    rw [ha]
    refine .store e (by omega) ho.1 (ih (i + 1) _ (c.set (o + i) v) (upd_same _ _ _) (by simp; omega) ho.2 ?_)
    rw [upd_upd, ← Nat.add_assoc, ← over_cons c (o + i) v l (by omega)]
    exact hk
end
end Go.Sl
/-
  Part 3: the operations as functions of a heap, and that the model's operations come to just that.
-/
namespace Go.Sl
open Go
def ag (l : List Value) : Value := .agg l.toArray
def tup (l : List Value) : Value := .tuple l.toArray
def cellsL (v : Value) : List Value := v.cells.toList
@[simp] theorem cellsL_ag (l : List Value) : cellsL (ag l) = l := by simp [cellsL, ag, Value.cells]
theorem cellsL_one {v : Value} (e : one v = true) : cellsL v = [v] := by cases v <;> first | rfl | cases e
def ptr (b o : Nat) : Value := .pointer (some ⟨b, o, none⟩)

def ptrK (v : Value) (k : Nat → Nat → Prop) : Prop := match v with | .pointer (some ⟨b, o, none⟩) => k b o | _ => False
def cellsK (h : Hp) (b : Nat) (k : List Value → Prop) : Prop := match h b with | some (.cells c _) => k c | _ => False
def wcellsK (h : Hp) (b : Nat) (k : List Value → Prop) : Prop := match h b with | some (.cells c true) => k c | _ => False
def mapK (h : Hp) (b : Nat) (k : List MapEntry → Nat → Prop) : Prop := match h b with | some (.map es c) => k es c | _ => False
def nthK (l : List Value) (i : Nat) (k : Value → Prop) : Prop := match l[i]? with | some v => k v | none => False
def chk (c : Bool) (k : Prop) : Prop := match c with | true => k | false => False
def newK (h : Hp) (c : List Value) (k : Nat → Hp → Prop) : Prop := ∀ b, h b = none → k b (upd h b (.cells c true))
def loadK1 (h : Hp) (v : Value) (k : Value → Prop) : Prop := ptrK v fun b o => cellsK h b fun c => nthK c o k
def loadKn (h : Hp) (v : Value) (n : Nat) (k : List Value → Prop) : Prop := ptrK v fun b o => cellsK h b fun c => chk (decide (o + n ≤ c.length)) (k ((c.drop o).take n))
def storeK1 (h : Hp) (v x : Value) (k : Hp → Prop) : Prop := ptrK v fun b o => wcellsK h b fun c => chk (decide (o < c.length) && one x) (k (upd h b (.cells (c.set o x) true)))
def storeKn (h : Hp) (v : Value) (l : List Value) (k : Hp → Prop) : Prop :=
  ptrK v fun b o => wcellsK h b fun c => chk (decide (o + l.length ≤ c.length) && l.all one) (k (upd h b (.cells (over c o l) true)))
def intK (v : Value) (k : IntKind → Int → Prop) : Prop := match v with | .int q n => k q n | _ => False
def boolK (v : Value) (k : Bool → Prop) : Prop := match v with | .bool b => k b | _ => False
def strK (v : Value) (k : ByteArray → Prop) : Prop := match v with | .string s => k s | _ => False
def sliceK (v : Value) (k : Option Addr → Nat → Nat → Prop) : Prop := match v with | .slice a n c => k a n c | _ => False
def bcase (b : Bool) (p q : Prop) : Prop := match b with | true => p | false => q

theorem chk_true {c : Bool} {k : Prop} (e : c = true) (hk : k) : chk c k := by subst e; exact hk
theorem chk_elim {c : Bool} {k : Prop} (e : chk c k) : c = true ∧ k := by cases c <;> simp_all [chk]
theorem ptrK_elim {v : Value} {k : Nat → Nat → Prop} (e : ptrK v k) : ∃ b o, v = ptr b o ∧ k b o := by
  unfold ptrK at e; split at e
  · exact ⟨_, _, rfl, e⟩
  · exact e.elim
theorem cellsK_elim {h : Hp} {b : Nat} {k : List Value → Prop} (e : cellsK h b k) : ∃ c wr, h b = some (.cells c wr) ∧ k c := by
  unfold cellsK at e; split at e
  · rename_i hb; exact ⟨_, _, hb, e⟩
  · exact e.elim
theorem wcellsK_elim {h : Hp} {b : Nat} {k : List Value → Prop} (e : wcellsK h b k) : ∃ c, h b = some (.cells c true) ∧ k c := by
  unfold wcellsK at e; split at e
  · rename_i hb; exact ⟨_, hb, e⟩
  · exact e.elim
theorem mapK_elim {h : Hp} {b : Nat} {k : List MapEntry → Nat → Prop} (e : mapK h b k) : ∃ es c, h b = some (.map es c) ∧ k es c := by
  unfold mapK at e; split at e
  · rename_i hb; exact ⟨_, _, hb, e⟩
  · exact e.elim
theorem nthK_elim {l : List Value} {i : Nat} {k : Value → Prop} (e : nthK l i k) : ∃ v, l[i]? = some v ∧ k v := by
  unfold nthK at e; split at e
  · rename_i hb; exact ⟨_, hb, e⟩
  · exact e.elim
theorem intK_elim {v : Value} {k : IntKind → Int → Prop} (e : intK v k) : ∃ q n, v = .int q n ∧ k q n := by
  unfold intK at e; split at e
  · exact ⟨_, _, rfl, e⟩
  · exact e.elim
theorem boolK_elim {v : Value} {k : Bool → Prop} (e : boolK v k) : ∃ b, v = .bool b ∧ k b := by
  unfold boolK at e; split at e
  · exact ⟨_, rfl, e⟩
  · exact e.elim
theorem strK_elim {v : Value} {k : ByteArray → Prop} (e : strK v k) : ∃ b, v = .string b ∧ k b := by
  unfold strK at e; split at e
  · exact ⟨_, rfl, e⟩
  · exact e.elim
theorem sliceK_elim {v : Value} {k : Option Addr → Nat → Nat → Prop} (e : sliceK v k) : ∃ a n c, v = .slice a n c ∧ k a n c := by
  unfold sliceK at e; split at e
  · exact ⟨_, _, _, rfl, e⟩
  · exact e.elim

section
variable {P : Program} {h : Hp} {k : Value → Hp → Prop}

def tyK (P : Program) (t : TypeId) (k : Nat → Bool → Prop) : Prop :=
  match P.info? t, P.underlying t with
  | some i, some d => k i.size (isAggD d)
  | _, _ => False
theorem tyK_elim {t : TypeId} {k : Nat → Bool → Prop} (e : tyK P t k) : ∃ i d, P.info? t = some i ∧ P.underlying t = some d ∧ k i.size (isAggD d) := by
  unfold tyK at e; split at e
  · rename_i h1 h2; exact ⟨_, _, h1, h2, e⟩
  · exact e.elim

-- loads, stores, new variables
def loadOp (P : Program) (t : TypeId) (v : Value) (h : Hp) (k : Value → Hp → Prop) : Prop :=
  tyK P t fun n agg => match agg with | true => loadKn h v n fun l => k (ag l) h | false => loadK1 h v fun x => k x h
theorem loadOp_sound {t : TypeId} {v : Value} (e : loadOp P t v h k) : QA P (Instr.loadAt t v) h fun v => k v h := by
  obtain ⟨i, d, hi, hd, e⟩ := tyK_elim e
  cases hg : isAggD d <;> rw [hg] at e
  · obtain ⟨b, o, rfl, e⟩ := ptrK_elim e
    obtain ⟨c, wr, hb, e⟩ := cellsK_elim e
    obtain ⟨x, hx, e⟩ := nthK_elim e
    refine .bind (.of_run (fun _ => rfl) (.bind (.isAgg hd ?_)))
    rw [hg]; exact .load hb hx e
  · obtain ⟨b, o, rfl, e⟩ := ptrK_elim e
    obtain ⟨c, wr, hb, e⟩ := cellsK_elim e
    obtain ⟨hc, e⟩ := chk_elim e
    refine .bind (.of_run (fun _ => rfl) (.bind (.isAgg hd ?_)))
    rw [hg]
    refine .bind (.sizeOf hi (.bind (.loadCells hb (by simpa using hc) (.pure e))))
def storeOp (P : Program) (t : TypeId) (v x : Value) (h : Hp) (k : Value → Hp → Prop) : Prop :=
  tyK P t fun n agg => match agg with
    | true => chk (decide ((cellsL x).length = n)) (storeKn h v (cellsL x) fun h => k undef h)
    | false => chk (decide (n = 1)) (storeK1 h v x fun h => k undef h)
theorem storeOp_sound {t : TypeId} {v x : Value} (e : storeOp P t v x h k) : SemA P (do Instr.storeAt t v x; pure (Next.skip)) h (fun _ h' => k undef h') := by
  obtain ⟨i, d, hi, hd, e⟩ := tyK_elim e
  cases hg : isAggD d <;> rw [hg] at e
  · obtain ⟨hn, e⟩ := chk_elim e
    obtain ⟨b, o, rfl, e⟩ := ptrK_elim e
    obtain ⟨c, hb, e⟩ := wcellsK_elim e
    obtain ⟨hc, e⟩ := chk_elim e
    simp only [Bool.and_eq_true, decide_eq_true_eq] at hc hn
    have h1 := cellsL_one hc.2
    refine .bind (.bind (.of_run (fun _ => rfl) (.bind (.sizeOf hi ?_))))
    have hs : x.cells.size = 1 := by simpa [cellsL] using congrArg List.length h1
    rw [if_neg (by rw [hs, hn]; simp)]
    refine SemA.storeCells o _ 0 h c hb (by rw [show x.cells.toList = [x] from h1]; simp; omega) (by rw [show x.cells.toList = [x] from h1]; simp [hc.2]) (.pure ?_)
    rw [show x.cells.toList = [x] from h1, over_cons _ _ _ _ (by omega), over_nil]; exact e
  · obtain ⟨hn, e⟩ := chk_elim e
    obtain ⟨b, o, rfl, e⟩ := ptrK_elim e
    obtain ⟨c, hb, e⟩ := wcellsK_elim e
    obtain ⟨hc, e⟩ := chk_elim e
    simp only [Bool.and_eq_true, decide_eq_true_eq] at hc hn
    refine .bind (.bind (.of_run (fun _ => rfl) (.bind (.sizeOf hi ?_))))
    have hs : x.cells.size = i.size := by simpa [cellsL] using hn
    rw [if_neg (by rw [hs]; simp)]
    exact SemA.storeCells o _ 0 h c hb (by simpa [cellsL] using hc.1) hc.2 (.pure e)
theorem newRow_sound {t : TypeId} {c : Array Value} {k : Addr → Hp → Prop} (e : newK h c.toList fun b h => k ⟨b, 0, none⟩ h) : SemA P (newRow t c) h k :=
  .bind (.newObj (o := .cells c.toList true) ⟨t, (0, 0), by simp, fun _ j _ => by omega⟩ fun b hb => .pure (e b hb))
def allocOp (P : Program) (t : TypeId) (h : Hp) (k : Value → Hp → Prop) : Prop :=
  match P.info? t with
  | some i => match i.zero with
    | some z => newK h (cellsL z) fun b h => k (ptr b 0) h
    | none => False
  | none => False
theorem allocOp_sound {t : TypeId} (e : allocOp P t h k) : SemA P (Instr.alloc t true (.tuple #[])) h k := by
  unfold allocOp at e
  split at e
  · rename_i i hi
    split at e
    · rename_i z hz
      exact .bind (.zeroValue hi hz (.bind (newRow_sound fun b hb => .pure (e b hb))))
    · exact e.elim
  · exact e.elim
def boxOp (x : Value) (h : Hp) (k : Value → Hp → Prop) : Prop := newK h (cellsL x) fun b h => k (ptr b 0) h
theorem boxOp_sound {t : TypeId} {x : Value} (e : boxOp x h k) : SemA P (Instr.box t x) h k :=
  .bind (newRow_sound fun b hb => .pure (e b hb))
end
end Go.Sl
/-
  Part 4: structs, arrays, slices, numbers: the operations that turn values.
-/
namespace Go.Sl
open Go
section
variable {P : Program} {h : Hp} {k : Value → Hp → Prop}

-- building structs, arrays, rows of slices
def fillK : List (Nat × Nat × Value) → List Value → (List Value → Prop) → Prop
  | [], c, k => k c
  | (off, size, v) :: rest, c, k => chk (decide ((cellsL v).length = size) && decide (off + size ≤ c.length)) (fillK rest (over c off (cellsL v)) k)
def triples (place : Nat → Option (Nat × Nat)) : List (Nat × Value) → Option (List (Nat × Nat × Value))
  | [] => some []
  | (i, v) :: rest => match place i, triples place rest with
    | some (o, s), some l => some ((o, s, v) :: l)
    | _, _ => none
theorem foldl_over : ∀ (l : List Value) (n off : Nat) (c : Array Value), off + n + l.length ≤ c.size →
    (l.zipIdx n).foldl (fun (cs : Array Value) (x : Value × Nat) => cs.setIfInBounds (off + x.2) x.1) c = (over c.toList (off + n) l).toArray := by
  intro l
  induction l with
  | nil => intro n off c _; simp [over_nil]
  | cons v l ih =>
    intro n off c hl
    simp only [List.length_cons] at hl
    rw [List.zipIdx_cons, List.foldl_cons, ih (n + 1) off _ (by simp; omega), over_cons _ _ _ _ (by simp; omega)]
    simp [Nat.add_assoc]
theorem fill_sound (place : Nat → Option (Nat × Nat)) : ∀ (parts : List (Nat × Value)) (ts : List (Nat × Nat × Value)) (c : List Value) (k : List Value → Prop),
    triples place parts = some ts → fillK ts c k → ∃ c', Instr.fill place c.toArray parts = some c'.toArray ∧ k c' := by
  intro parts
  induction parts with
  | nil => intro ts c k ht e; simp only [triples, Option.some.injEq] at ht; subst ht; exact ⟨c, rfl, e⟩
  | cons x rest ih =>
    obtain ⟨i, v⟩ := x
    intro ts c k ht e
    simp only [triples] at ht
    split at ht
    · rename_i o s l hp hr
      simp only [Option.some.injEq] at ht; subst ht
      obtain ⟨hc, e⟩ := chk_elim e
      simp only [Bool.and_eq_true, decide_eq_true_eq] at hc
      have hs : v.cells.size = s := by simpa [cellsL] using hc.1
      obtain ⟨c', he, hk⟩ := ih l _ k hr e
      refine ⟨c', ?_, hk⟩
      simp only [Instr.fill, hp]
      rw [if_neg (by simp [hs]; omega)]
      have hf := foldl_over v.cells.toList 0 o c.toArray (by simp [hs]; omega)
      rw [← Array.foldl_toList, Array.toList_zipIdx]
      rw [hf]; simpa [cellsL] using he
    · cases ht
def placesOf (P : Program) : List Field → Option (List (Nat × Nat))
  | [] => some []
  | f :: fs => match P.info? f.type, placesOf P fs with
    | some i, some l => some ((f.offset, i.size) :: l)
    | _, _ => none
def zeroK (P : Program) (t : TypeId) (k : List Value → Prop) : Prop :=
  match P.info? t with
  | some i => match i.zero with
    | some z => k (cellsL z)
    | none => False
  | none => False
theorem zeroK_elim {t : TypeId} {k : List Value → Prop} (e : zeroK P t k) : ∃ i z, P.info? t = some i ∧ i.zero = some z ∧ k (cellsL z) := by
  unfold zeroK at e; split at e
  · rename_i i hi; split at e
    · rename_i z hz; exact ⟨i, z, hi, hz, e⟩
    · exact e.elim
  · exact e.elim
def sizeK (P : Program) (t : TypeId) (k : Nat → Prop) : Prop := match P.info? t with | some i => k i.size | none => False
theorem sizeK_elim {t : TypeId} {k : Nat → Prop} (e : sizeK P t k) : ∃ i, P.info? t = some i ∧ k i.size := by
  unfold sizeK at e; split at e
  · rename_i i hi; exact ⟨i, hi, e⟩
  · exact e.elim
def optK {α : Type} (x : Option α) (k : α → Prop) : Prop := match x with | some a => k a | none => False
theorem optK_elim {α : Type} {x : Option α} {k : α → Prop} (e : optK x k) : ∃ a, x = some a ∧ k a := by
  unfold optK at e; split at e
  · exact ⟨_, rfl, e⟩
  · exact e.elim
theorem places_run : ∀ (fs : List Field) (l : List (Nat × Nat)), placesOf P fs = some l → ∀ w, (fs.mapM (m := Sem) fun f => do pure (f.offset, ← sizeOf f.type)).run P w = .ok l w := by
  intro fs
  induction fs with
  | nil => intro l e w; simp only [placesOf, Option.some.injEq] at e; subst e; rfl
  | cons f fs ih =>
    intro l e w
    simp only [placesOf] at e
    split at e
    · rename_i i r hi hr
      simp only [Option.some.injEq] at e; subst e
      rw [List.mapM_cons, Sem.run_bind, Sem.run_bind, show (Go.sizeOf f.type).run P w = .ok i.size w by simp [Go.sizeOf, Go.typeInfo, hi]]
      simp only [Result.andThen_ok, Sem.run_pure]
      rw [Sem.run_bind, ih r hr w]; rfl
    · cases e
def structK (P : Program) (t : TypeId) (k : List Field → Prop) : Prop := match P.underlying t with | some (.struct fs) => k fs.toList | _ => False
def buildOp (P : Program) (t : TypeId) (parts : List (Nat × Value)) (h : Hp) (k : Value → Hp → Prop) : Prop :=
  zeroK P t fun z => match P.underlying t with
    | some (.struct fs) => optK (placesOf P fs.toList) fun pl => optK (triples (pl[·]?) parts) fun ts => fillK ts z fun c => k (ag c) h
    | some (.array _ el) => sizeK P el fun s => optK (triples (fun i => some (i * s, s)) parts) fun ts => fillK ts z fun c => k (ag c) h
    | _ => False
theorem buildOp_sound {t : TypeId} {parts : Array (Nat × Value)} (e : buildOp P t parts.toList h k) : QA P (Instr.build t parts) h fun v => k v h := by
  obtain ⟨i, z, hi, hz, e⟩ := zeroK_elim e
  refine .bind (.zeroValue hi hz ?_)
  dsimp only at e ⊢
  split at e
  · rename_i fs hu
    obtain ⟨pl, hpl, e⟩ := optK_elim e
    obtain ⟨ts, hts, e⟩ := optK_elim e
    obtain ⟨c, hc, e⟩ := fill_sound _ _ _ _ _ hts e
    refine .bind (.underlying hu (.bind (.of_run (a := pl.toArray) (fun w => ?_) ?_)))
    · rw [Array.mapM_eq_mapM_toList, Sem.run_map, places_run _ _ hpl w]; rfl
    · have hp : (fun (x : Nat) => pl.toArray[x]?) = (fun x => pl[x]?) := by funext x; simp
      simp only [cellsL, Array.toArray_toList] at hc
      rw [hp, hc]; exact .pure e
  · rename_i n el hu
    obtain ⟨j, hj, e⟩ := sizeK_elim e
    obtain ⟨ts, hts, e⟩ := optK_elim e
    obtain ⟨c, hc, e⟩ := fill_sound _ _ _ _ _ hts e
    simp only [cellsL, Array.toArray_toList] at hc
    refine .bind (.underlying hu (.bind (.sizeOf hj ?_)))
    rw [hc]; exact .pure e
  · exact e.elim
def repL : Nat → List Value → List Value
  | 0, _ => []
  | n + 1, z => z ++ repL n z
theorem repL_length (n : Nat) (z : List Value) : (repL n z).length = n * z.length := by
  induction n with
  | zero => simp [repL]
  | succ n ih => simp [repL, ih, Nat.succ_mul, Nat.add_comm]
theorem repL_get (z : List Value) (n i : Nat) (hi : i < n * z.length) : (repL n z)[i]? = z[i % z.length]? := by
  induction n generalizing i with
  | zero => simp at hi
  | succ n ih =>
    simp only [repL]
    rw [List.getElem?_append]
    split
    · rename_i h1; rw [Nat.mod_eq_of_lt h1]
    · rename_i h1
      rw [ih (i - z.length) (by rw [Nat.succ_mul] at hi; omega), ← Nat.mod_eq_sub_mod (by omega)]
theorem range_rep (z : Array Value) (n : Nat) (hz : 0 < z.size ∨ n = 0) : ((Array.range (n * z.size)).map (z[· % z.size]!)) = (repL n z.toList).toArray := by
  apply Array.ext'
  apply List.ext_getElem?
  intro i
  by_cases hi : i < n * z.size
  · have h0 : 0 < z.size := by rcases hz with h | h; exact h; subst h; simp at hi
    have hm : i % z.size < z.size := Nat.mod_lt _ h0
    rw [show (repL n z.toList).toArray.toList = repL n z.toList from rfl, repL_get z.toList n i (by simpa using hi)]
    simp [hi, hm]
  · rw [List.getElem?_eq_none (by simp; omega), List.getElem?_eq_none (by simp [repL_length]; omega)]
def sliceTK (P : Program) (t : TypeId) (k : TypeId → Prop) : Prop := match P.underlying t with | some (.slice el) => k el | _ => False
theorem sliceTK_elim {t : TypeId} {k : TypeId → Prop} (e : sliceTK P t k) : ∃ el, P.underlying t = some (.slice el) ∧ k el := by
  unfold sliceTK at e; split at e
  · exact ⟨_, by assumption, e⟩
  · exact e.elim
def buildSliceOp (P : Program) (t : TypeId) (len : Nat) (parts : List (Nat × Value)) (h : Hp) (k : Value → Hp → Prop) : Prop :=
  sliceTK P t fun el => sizeK P el fun s => zeroK P el fun z => chk (decide (len * s ≤ 16777216) && decide (z.length = s) && decide (0 < s))
    (optK (triples (fun i => some (i * s, s)) parts) fun ts => fillK ts (repL len z) fun c => newK h c fun b h => k (.slice (some ⟨b, 0, none⟩) len len) h)
theorem buildSliceOp_sound {t : TypeId} {len : Nat} {parts : Array (Nat × Value)} (e : buildSliceOp P t len parts.toList h k) : SemA P (Instr.buildSlice t len parts) h k := by
  obtain ⟨el, hu, e⟩ := sliceTK_elim e
  obtain ⟨i, hi, e⟩ := sizeK_elim e
  obtain ⟨i', z, hi', hz, e⟩ := zeroK_elim e
  rw [hi] at hi'; cases hi'
  obtain ⟨hc, e⟩ := chk_elim e
  simp only [Bool.and_eq_true, decide_eq_true_eq] at hc
  obtain ⟨ts, hts, e⟩ := optK_elim e
  obtain ⟨c, hf, e⟩ := fill_sound _ _ _ _ _ hts e
  have hzs : z.cells.size = i.size := by simpa [cellsL] using hc.1.2
  refine .bind (.underlying hu (.bind (.sizeOf hi ?_)))
  rw [if_neg (by have := hc.1.1; omega)]
  dsimp only
  by_cases h0 : len * i.size = 0
  · have hl : len = 0 := by rcases Nat.mul_eq_zero.1 h0 with h | h; exact h; omega
    subst hl
    rw [if_pos h0]
    refine .bind (.pure ?_)
    simp only [repL] at hf
    simp only [Nat.zero_mul, Array.range_zero', List.map_toArray, List.map_nil, hf]
    exact .bind (newRow_sound fun b hb => .pure (e b hb))
  · rw [if_neg h0]
    refine .bind (.zeroValue hi hz (.bind (.pure ?_)))
    rw [← hzs, range_rep z.cells len (.inl (by omega))]
    simp only [cellsL] at hf
    rw [← hzs] at hf
    rw [hf]
    exact .bind (newRow_sound fun b hb => .pure (e b hb))
end
end Go.Sl
/-
  Part 5: addresses, indexes, slices, lengths, numbers, comparisons, conversions of numbers.
-/
namespace Go.Sl
open Go
section
variable {P : Program} {h : Hp} {k : Value → Hp → Prop}
theorem addr_add (b o n : Nat) : (⟨b, o, none⟩ : Addr).add n = ⟨b, o + n, none⟩ := by unfold Addr.add; split <;> simp_all
theorem addr_eq (b o : Nat) : ({ block := b, off := o } : Addr) = ⟨b, o, none⟩ := rfl

def nilChkOp (v : Value) (h : Hp) (k : Value → Hp → Prop) : Prop :=
  match v with
  | .pointer (some _) | .func (.func _) _ _ | .iface _ _ => k v h
  | _ => False
theorem nilChkOp_sound {o : Oper} {ρ : Operand → Value} {x : Operand} (ho : o.op = .nilCheck x) (e : nilChkOp (ρ x) h k) :
    QA P (execOp ρ o) h fun r => ∃ v, r = .value v ∧ k v h := by
  unfold execOp; rw [ho]; dsimp only
  generalize ρ x = v at e
  unfold nilChkOp at e
  split at e
  · exact .pure ⟨_, rfl, e⟩
  · exact .pure ⟨_, rfl, e⟩
  · exact .pure ⟨_, rfl, e⟩
  · exact e.elim

def faddK (v : Value) (off : Nat) (k : Value → Prop) : Prop := ptrK v fun b o => k (ptr b (o + off))
def fieldAddrOp (P : Program) (s : TypeId) (v : Value) (i : Nat) (h : Hp) (k : Value → Hp → Prop) : Prop :=
  match P.underlying s with
  | some (.struct fs) => match fs.toList[i]? with
    | some f => sizeK P f.type fun n => chk (decide (0 < n)) (faddK v f.offset fun p => k p h)
    | none => False
  | _ => False
theorem fieldAddrOp_sound {s : TypeId} {v : Value} {i : Nat} (e : fieldAddrOp P s v i h k) : QA P (Instr.fieldAt s v i) h fun v => k v h := by
  unfold fieldAddrOp at e; split at e
  · rename_i fs hu; split at e
    · rename_i f hf
      obtain ⟨j, hj, e⟩ := sizeK_elim e
      obtain ⟨hc, e⟩ := chk_elim e
      obtain ⟨b, o, rfl, e⟩ := ptrK_elim e
      simp only [decide_eq_true_eq] at hc
      have hf' : fs[i]? = some f := by simpa using hf
      refine .bind (.underlying hu ?_)
      dsimp only
      rw [hf']
      refine .bind (.of_run (fun _ => rfl) (.bind (.bind (.sizeOf hj ?_))))
      rw [if_neg (by omega), addr_add]
      exact .pure (.pure e)
    · exact e.elim
  · exact e.elim
def partK (P : Program) (t : TypeId) (c : List Value) (off : Nat) (k : Value → Prop) : Prop :=
  tyK P t fun n agg => match agg with | true => k (ag ((c.drop off).take n)) | false => nthK c off k
theorem part_sound {t : TypeId} {cs : Array Value} {off : Nat} (e : partK P t cs.toList off fun v => k v h) : QA P (part t cs off) h fun v => k v h := by
  obtain ⟨i, d, hi, hd, e⟩ := tyK_elim e
  refine .bind (.isAgg hd ?_)
  cases hg : isAggD d <;> rw [hg] at e
  · obtain ⟨v, hv, e⟩ := nthK_elim e
    have hv' : cs[off]? = some v := by simpa using hv
    simp only [hv']; exact .pure e
  · refine .bind (.sizeOf hi (.pure ?_))
    have hx : cs.extract off (off + i.size) = ((cs.toList.drop off).take i.size).toArray := by
      apply Array.ext'; simp [Array.toList_extract, List.extract_eq_take_drop]
    rw [hx]; exact e
def fieldOp (P : Program) (t : TypeId) (x : Value) (i : Nat) (h : Hp) (k : Value → Hp → Prop) : Prop :=
  match P.underlying t with
  | some (.struct fs) => match fs.toList[i]?, x with
    | some f, .agg cs => partK P f.type cs.toList f.offset fun v => k v h
    | _, _ => False
  | _ => False
theorem fieldOp_sound {t : TypeId} {x : Value} {i : Nat} (e : fieldOp P t x i h k) : QA P (Instr.field t x i) h fun v => k v h := by
  unfold fieldOp at e; split at e
  · rename_i fs hu; split at e
    · rename_i f cs hf
      have hf' : fs[i]? = some f := by simpa using hf
      refine .bind (.underlying hu ?_)
      dsimp only
      rw [hf']
      exact .bind (.of_run (a := cs) (fun _ => rfl) (part_sound e))
    · exact e.elim
  · exact e.elim
def idxAK (v : Value) (n s : Nat) (i : Value) (k : Value → Prop) : Prop :=
  ptrK v fun b o => intK i fun _ j => chk (decide (0 ≤ j) && decide (j < n)) (k (ptr b (o + j.toNat * s)))
def idxSK (v : Value) (s : Nat) (i : Value) (k : Value → Prop) : Prop :=
  match v with
  | .slice (some ⟨b, o, none⟩) n _ => intK i fun _ j => chk (decide (0 ≤ j) && decide (j < n)) (k (ptr b (o + j.toNat * s)))
  | _ => False
def indexAddrOp (P : Program) (t : TypeId) (x i : Value) (h : Hp) (k : Value → Hp → Prop) : Prop :=
  match P.underlying t with
  | some (.array n el) => sizeK P el fun s => idxAK x n s i fun p => k p h
  | some (.slice el) => sizeK P el fun s => idxSK x s i fun p => k p h
  | _ => False
theorem indexAddrOp_sound {t : TypeId} {x i : Value} (e : indexAddrOp P t x i h k) : QA P (Instr.indexAt t x i) h fun v => k v h := by
  unfold indexAddrOp at e; split at e
  · rename_i n el hu
    obtain ⟨y, hy, e⟩ := sizeK_elim e
    obtain ⟨b, o, rfl, e⟩ := ptrK_elim e
    obtain ⟨q, j, rfl, e⟩ := intK_elim e
    obtain ⟨hc, e⟩ := chk_elim e
    simp only [Bool.and_eq_true, decide_eq_true_eq] at hc
    refine .of_run (fun w => ?_) e
    rw [ptr, run_indexAt_array w t _ q j (by simp [Program.arrayLen, Program.elem, hu]), if_pos (by simpa [Program.arrayLen, hu] using hc)]
    simp [Go.sizeOf, Go.typeInfo, Program.elem, hu, hy, addr_add, ptr]
  · rename_i el hu
    obtain ⟨y, hy, e⟩ := sizeK_elim e
    unfold idxSK at e; split at e
    · obtain ⟨q, j, rfl, e⟩ := intK_elim e
      obtain ⟨hc, e⟩ := chk_elim e
      simp only [Bool.and_eq_true, decide_eq_true_eq] at hc
      refine .of_run (fun w => ?_) e
      rw [run_indexAt_slice w t _ _ _ q j (by simp [Program.elem, hu]), if_pos hc]
      simp [Go.sizeOf, Go.typeInfo, Program.elem, hu, hy, addr_add, ptr]
    · exact e.elim
  · exact e.elim
def idxStrK (x i : Value) (k : Value → Prop) : Prop :=
  strK x fun s => intK i fun _ j => chk (decide (0 ≤ j)) (optK s.data.toList[j.toNat]? fun b => k (.int .u8 b.toNat))
def indexOp (P : Program) (t : TypeId) (x i : Value) (h : Hp) (k : Value → Hp → Prop) : Prop :=
  match P.underlying t with
  | some .string => idxStrK x i fun v => k v h
  | some (.array n el) => match x with
    | .agg cs => sizeK P el fun s => intK i fun _ j => chk (decide (0 ≤ j) && decide (j < n)) (partK P el cs.toList (j.toNat * s) fun v => k v h)
    | _ => False
  | _ => False
theorem bytes_get (s : ByteArray) (i : Nat) : s[i]? = s.data.toList[i]? := by
  by_cases h : i < s.size
  · rw [getElem?_pos s i h, List.getElem?_eq_getElem (by simpa using h)]; rfl
  · rw [getElem?_neg s i h, List.getElem?_eq_none (by simpa using h)]
theorem indexOp_sound {t : TypeId} {x i : Value} (e : indexOp P t x i h k) : QA P (Instr.index t x i) h fun v => k v h := by
  unfold indexOp at e; split at e
  · rename_i hu
    obtain ⟨s, rfl, e⟩ := strK_elim e
    obtain ⟨q, j, rfl, e⟩ := intK_elim e
    obtain ⟨hc, e⟩ := chk_elim e
    obtain ⟨b, hb, e⟩ := optK_elim e
    simp only [decide_eq_true_eq] at hc
    refine .bind (.of_run (fun _ => rfl) (.bind (.underlying hu ?_)))
    dsimp only
    rw [if_pos hc, bytes_get, hb]; exact .pure e
  · rename_i n el hu; split at e
    · rename_i cs
      obtain ⟨y, hy, e⟩ := sizeK_elim e
      obtain ⟨q, j, rfl, e⟩ := intK_elim e
      obtain ⟨hc, e⟩ := chk_elim e
      simp only [Bool.and_eq_true, decide_eq_true_eq] at hc
      refine .bind (.of_run (fun _ => rfl) (.bind (.underlying hu ?_)))
      dsimp only
      rw [if_pos hc]
      exact .bind (.sizeOf hy (part_sound e))
    · exact e.elim
  · exact e.elim
def extractK (x : Value) (i : Nat) (k : Value → Prop) : Prop := match x with | .tuple vs => nthK vs.toList i k | _ => False
theorem extractK_sound {x : Value} {i : Nat} (e : extractK x i fun v => k v h) : QA P (Instr.extract x i) h fun v => k v h := by
  unfold extractK at e; split at e
  · rename_i vs
    obtain ⟨v, hv, e⟩ := nthK_elim e
    have hv' : vs[i]? = some v := by simpa using hv
    unfold Instr.extract; dsimp only; rw [hv']; exact .pure e
  · exact e.elim

-- slice expressions
def bndK (v : Option Value) (d y : Nat) (k : Nat → Prop) : Prop :=
  match v with
  | none => k d
  | some (.int _ i) => chk (decide (0 ≤ i) && decide (i ≤ y)) (k i.toNat)
  | _ => False
theorem sliceBound_run {i : Int} {q : IntKind} {y : Nat} {c : BoundsCode} (h0 : 0 ≤ i) (h1 : i ≤ y) (w : World) : (Instr.sliceBound (.int q i) y c).run P w = .ok i.toNat w := by
  unfold Instr.sliceBound
  simp [asIntOf, h0, h1]
def boundsK (len cap : Nat) (lo hi mx : Option Value) (k : Nat → Nat → Nat → Prop) : Prop :=
  match hi, mx with
  | none, some _ => False
  | _, _ => bndK mx cap cap fun m => bndK hi len m fun n => bndK lo 0 n fun l => k l n m
theorem bndK_elim {v : Option Value} {d y : Nat} {k : Nat → Prop} (e : bndK v d y k) :
    ∃ n, k n ∧ ((v = none ∧ n = d) ∨ ∃ x, v = some x ∧ ∀ (P : Program) c w, (Instr.sliceBound x y c).run P w = .ok n w) := by
  unfold bndK at e; split at e
  · exact ⟨d, e, .inl ⟨rfl, rfl⟩⟩
  · obtain ⟨hc, e⟩ := chk_elim e
    simp only [Bool.and_eq_true, decide_eq_true_eq] at hc
    exact ⟨_, e, .inr ⟨_, rfl, fun P c w => sliceBound_run hc.1 hc.2 w⟩⟩
  · exact e.elim
theorem boundsK_elim {len cap : Nat} {lo hi mx : Option Value} {k : Nat → Nat → Nat → Prop} (e : boundsK len cap lo hi mx k) :
    ∃ l n m, k l n m ∧ ∀ (P : Program) isS w, (Instr.sliceBounds isS len cap lo hi mx).run P w = .ok (l, n, m) w := by
  unfold boundsK at e
  split at e
  · exact e.elim
  · rename_i hne
    obtain ⟨m, e, hm⟩ := bndK_elim e
    obtain ⟨n, e, hn⟩ := bndK_elim e
    obtain ⟨l, e, hl⟩ := bndK_elim e
    refine ⟨l, n, m, e, fun P isS w => ?_⟩
    unfold Instr.sliceBounds
    rcases hm with ⟨rfl, rfl⟩ | ⟨x, rfl, hx⟩ <;> rcases hn with ⟨rfl, rfl⟩ | ⟨y, rfl, hy⟩ <;> rcases hl with ⟨rfl, rfl⟩ | ⟨z, rfl, hz⟩ <;>
      first
        | exact (hne _ rfl rfl).elim
        | simp [*]
def movA (a : Addr) (n : Nat) : Addr := a.add n
def sliceSK (v : Value) (s : Nat) (lo hi mx : Option Value) (k : Value → Prop) : Prop :=
  sliceK v fun a n c => boundsK n c lo hi mx fun l h m => k (.slice (if m = l then a else a.map (movA · (l * s))) (h - l) (m - l))
def sliceAK (v : Value) (n s : Nat) (lo hi mx : Option Value) (k : Value → Prop) : Prop :=
  ptrK v fun b o => boundsK n n lo hi mx fun l h m => k (.slice (some (if m = l then ⟨b, o, none⟩ else ⟨b, o + l * s, none⟩)) (h - l) (m - l))
def sliceTK' (v : Value) (lo hi : Option Value) (k : Value → Prop) : Prop :=
  strK v fun s => boundsK s.size s.size lo hi none fun l h _ => k (.string (s.extract l h))
def sliceOp (P : Program) (t : TypeId) (x : Value) (lo hi mx : Option Value) (h : Hp) (k : Value → Hp → Prop) : Prop :=
  match P.underlying t with
  | some (.array n el) => sizeK P el fun s => sliceAK x n s lo hi mx fun v => k v h
  | some (.slice el) => sizeK P el fun s => sliceSK x s lo hi mx fun v => k v h
  | some .string => match mx with | none => sliceTK' x lo hi fun v => k v h | some _ => False
  | _ => False
theorem sliceOp_sound {t : TypeId} {x : Value} {lo hi mx : Option Value} (e : sliceOp P t x lo hi mx h k) : QA P (Instr.sliceAt t x lo hi mx) h fun v => k v h := by
  unfold sliceOp at e; split at e
  · rename_i n el hu
    obtain ⟨y, hy, e⟩ := sizeK_elim e
    obtain ⟨b, o, rfl, e⟩ := ptrK_elim e
    obtain ⟨l, n', m, e, hb⟩ := boundsK_elim e
    refine .of_run (fun w => ?_) e
    simp [Instr.sliceAt, run_underlying hu, Instr.sureAddr, ptr, hb, Go.sizeOf, Go.typeInfo, hy, addr_add]
  · rename_i el hu
    obtain ⟨y, hy, e⟩ := sizeK_elim e
    obtain ⟨a, n, c, rfl, e⟩ := sliceK_elim e
    obtain ⟨l, n', m, e, hb⟩ := boundsK_elim e
    refine .of_run (fun w => ?_) e
    simp [Instr.sliceAt, Instr.slice, run_underlying hu, hb, Go.sizeOf, Go.typeInfo, hy, movA]
  · rename_i hu
    split at e
    · obtain ⟨s, rfl, e⟩ := strK_elim e
      obtain ⟨l, n', m, e, hb⟩ := boundsK_elim e
      refine .of_run (fun w => ?_) e
      simp [Instr.sliceAt, Instr.slice, run_underlying hu, hb]
    · exact e.elim
  · exact e.elim
def s2apOp (P : Program) (t : TypeId) (x : Value) (h : Hp) (k : Value → Hp → Prop) : Prop :=
  match P.underlying t with
  | some (.array n _) => sliceK x fun a len _ => chk (decide (n ≤ len)) (k (.pointer a) h)
  | _ => False
theorem s2apOp_sound {t : TypeId} {x : Value} (e : s2apOp P t x h k) : QA P (Instr.arrayAt t x) h fun v => k v h := by
  unfold s2apOp at e; split at e
  · rename_i n el hu
    obtain ⟨a, m, c, rfl, e⟩ := sliceK_elim e
    obtain ⟨hc, e⟩ := chk_elim e
    simp only [decide_eq_true_eq] at hc
    refine .of_run (fun w => ?_) e
    simp [Instr.arrayAt, run_underlying hu, Nat.not_lt.2 hc]
  · exact e.elim
def mkIfaceOp (P : Program) (t : TypeId) (x : Value) (h : Hp) (k : Value → Hp → Prop) : Prop := chk (P.concrete t) (k (.iface t x) h)
theorem mkIfaceOp_sound {t : TypeId} {x : Value} (e : mkIfaceOp P t x h k) : QA P (Instr.makeInterface t x) h fun v => k v h := by
  obtain ⟨hc, e⟩ := chk_elim e
  exact .of_run (fun w => run_makeInterface w t x hc) e
def mkMapOp (h : Hp) (k : Value → Hp → Prop) : Prop := ∀ b, h b = none → k (.map (some b)) (upd h b (.map [] 0))
theorem mkMapOp_sound {t : TypeId} (e : mkMapOp h k) : SemA P (Instr.makeMap t none) h k :=
  .bind (.newObj (o := .map [] 0) rfl fun b hb => .pure (e b hb))
def mkSliceOp (P : Program) (t : TypeId) (len cap : Value) (h : Hp) (k : Value → Hp → Prop) : Prop :=
  sliceTK P t fun el => sizeK P el fun s => zeroK P el fun z => intK len fun _ l => intK cap fun _ c =>
    chk (decide (0 ≤ l) && decide (l ≤ c) && decide (c ≤ 1048576) && decide (P.bytesOf el ≤ 1048576) && decide (z.length = s) && decide (0 < s))
      (newK h (repL c.toNat z) fun b h => k (.slice (some ⟨b, 0, none⟩) l.toNat c.toNat) h)
theorem wrap_i64 {n : Int} (h0 : 0 ≤ n) (h1 : n < 9223372036854775808) : IntKind.i64.wrap n = n := by
  have : IntKind.i64.bits = 64 := rfl
  unfold IntKind.wrap
  simp only [this, show (2 : Int) ^ 64 = 18446744073709551616 by decide, show (2 : Int) ^ (64 - 1) = 9223372036854775808 by decide]
  rw [Int.emod_eq_of_lt h0 (by omega)]
  simp; intro _; omega
theorem mkSliceOp_sound {t : TypeId} {len cap : Value} (e : mkSliceOp P t len cap h k) : SemA P (Instr.makeSlice t len cap) h k := by
  obtain ⟨el, hu, e⟩ := sliceTK_elim e
  obtain ⟨i, hi, e⟩ := sizeK_elim e
  obtain ⟨i', z, hi', hz, e⟩ := zeroK_elim e
  rw [hi] at hi'; cases hi'
  obtain ⟨q1, l, rfl, e1⟩ := intK_elim e
  obtain ⟨q2, c, rfl, e2⟩ := intK_elim e1
  clear e e1
  obtain ⟨hc, e⟩ := chk_elim e2
  simp only [Bool.and_eq_true, decide_eq_true_eq, Program.bytesOf, hi, Option.map_some, Option.getD_some] at hc
  obtain ⟨⟨⟨⟨⟨h0, h1⟩, h2⟩, h3⟩, h4⟩, h5⟩ := hc
  have wl := wrap_i64 (n := l) h0 (by omega)
  have wc := wrap_i64 (n := c) (by omega) (by omega)
  have hzs : z.cells.size = i.size := by simpa [cellsL] using h4
  have hb : (i.bytes : Int) * c ≤ 1048576 * 1048576 := by
    have a : (i.bytes : Int) ≤ 1048576 := by omega
    calc (i.bytes : Int) * c ≤ 1048576 * c := Int.mul_le_mul_of_nonneg_right a (by omega)
      _ ≤ 1048576 * 1048576 := Int.mul_le_mul_of_nonneg_left h2 (by omega)
  refine .bind (.underlying hu (.bind (.of_run (a := l) (fun _ => rfl) (.bind (.of_run (a := c) (fun _ => rfl) (.bind (.typeInfo hi ?_)))))))
  simp only [wl, wc]
  have hn : (decide (c < 0) || decide ((i.bytes : Int) * c > 2 ^ 48) || decide (l < 0) || decide (l > c)) = false := by
    simp; exact ⟨⟨⟨by omega, by omega⟩, by omega⟩, by omega⟩
  simp only [hn, Bool.false_eq_true, if_false]
  refine .bind (.askRoom (.bind (.sizeOf hi ?_)))
  by_cases hz0 : c.toNat * i.size = 0
  · have hc0 : c.toNat = 0 := by rcases Nat.mul_eq_zero.1 hz0 with h | h; exact h; omega
    rw [if_pos hz0]
    refine .bind (.pure (.bind ?_))
    rw [hz0, Array.range_zero']
    refine newRow_sound fun b hb => .pure ?_
    have := e b hb
    rw [hc0] at this ⊢
    simpa [repL] using this
  · rw [if_neg hz0]
    refine .bind (.zeroValue hi hz (.bind (.pure (.bind ?_))))
    rw [← hzs, range_rep z.cells c.toNat (.inl (by omega))]
    exact newRow_sound fun b hb => .pure (e b hb)
end
end Go.Sl
/-
  Part 6: operators, comparisons, conversions between numbers, lengths, least and greatest.
-/
namespace Go.Sl
open Go
section
variable {P : Program} {h : Hp} {k : Value → Hp → Prop}
def intV (op : BinOp) (q : IntKind) (a b : Int) : Option Value :=
  match op with
  | .add => some (.int q (q.wrap (a + b)))
  | .sub => some (.int q (q.wrap (a - b)))
  | .mul => some (.int q (q.wrap (a * b)))
  | .quo => if b = 0 then none else some (.int q (q.wrap (a.tdiv b)))
  | .rem => if b = 0 then none else some (.int q (a.tmod b))
  | .and | .or | .xor | .andNot => some (.int q (bits op q a b))
  | .eql => some (.bool (a == b))
  | .neq => some (.bool (a != b))
  | .lss => some (.bool (decide (a < b)))
  | .leq => some (.bool (decide (a ≤ b)))
  | .gtr => some (.bool (decide (a > b)))
  | .geq => some (.bool (decide (a ≥ b)))
  | _ => none
def shiftV (op : BinOp) (q : IntKind) (a b : Int) : Option Value :=
  if b < 0 then none else match op with
  | .shl => some (.int q (q.wrap (a * 2 ^ (min b.toNat q.bits))))
  | .shr => some (.int q (a.fdiv (2 ^ (min b.toNat q.bits))))
  | _ => none
def strV (op : BinOp) (a b : ByteArray) : Option Value :=
  match op with
  | .add => if a.size + b.size ≤ 1073741824 then some (.string (a ++ b)) else none
  | .eql => some (.bool (a.toList == b.toList))
  | .neq => some (.bool !(a.toList == b.toList))
  | .lss => some (.bool (Op.bytesLess a.toList b.toList))
  | _ => none
def nilEqV (P : Program) (t : TypeId) (x y : Value) : Option Bool :=
  match P.underlying t, x, y with
  | some .bool, .bool a, .bool b => some (a == b)
  | some (.pointer _), .pointer a, .pointer none => some a.isNone
  | some (.slice _), .slice a _ _, .slice none 0 0 => some a.isNone
  | some (.map _ _), .map a, .map none => some a.isNone
  | _, _, _ => none
def arithV (op : BinOp) (x y : Value) : Option Value :=
  match x, y with
  | .int q a, .int q' b => match op with
    | .shl | .shr => shiftV op q a b
    | _ => if q = q' then intV op q a b else none
  | .string a, .string b => strV op a b
  | _, _ => none
/-- Two structs or arrays of plain cells: are they alike, cell by cell? -/
def eqAggK (P : Program) (t : TypeId) (x y : Value) (k : Bool → Prop) : Prop :=
  chk (P.keyTypeAt 10 t && !(P.eqGuardType P.depth t) && x.formed P t && y.formed P t)
    (optK (P.keyLits 10 t (cellsL x)) fun lx => optK (P.keyLits 10 t (cellsL y)) fun ly => k (@decide (lx = ly) (Classical.propDecidable _)))
def binK (P : Program) (op : BinOp) (t : TypeId) (x y : Value) (k : Value → Prop) : Prop :=
  match arithV op x y with
  | some v => k v
  | none => match x, y with
    | .agg xs, .agg ys => (match op with
      | .eql => eqAggK P t (.agg xs) (.agg ys) fun r => k (.bool r)
      | .neq => eqAggK P t (.agg xs) (.agg ys) fun r => k (.bool !r)
      | _ => False)
    | _, _ => match op with
      | .eql => optK (nilEqV P t x y) fun b => k (.bool b)
      | .neq => optK (nilEqV P t x y) fun b => k (.bool !b)
      | _ => False
theorem intV_run {op : BinOp} {q : IntKind} {a b : Int} {v : Value} (e : intV op q a b = some v) (t : TypeId) (w : World) :
    (binOp op t (.int q a) (.int q b)).run P w = .ok v w := by
  cases op <;> simp only [intV] at e <;>
    first
      | (cases e; done)
      | (split at e
         · cases e
         · rename_i hb; cases e; simp [binOp, Op.intDiv, hb])
      | (cases e; simp [binOp, Op.intArith, Op.intCmp]; done)
      | (cases e; simp [binOp]; rfl)
theorem shiftV_run {op : BinOp} {q q' : IntKind} {a b : Int} {v : Value} (e : shiftV op q a b = some v) (t : TypeId) (w : World) :
    (binOp op t (.int q a) (.int q' b)).run P w = .ok v w := by
  unfold shiftV at e
  split at e
  · cases e
  · rename_i hb
    split at e
    · cases e; simp [binOp, Op.shift, hb]
    · cases e; simp [binOp, Op.shift, hb]
    · cases e
theorem strV_run {op : BinOp} {a b : ByteArray} {v : Value} (e : strV op a b = some v) (t : TypeId) (w : World) :
    (binOp op t (.string a) (.string b)).run P w = .ok v w := by
  cases op
  case add =>
    by_cases hb : a.size + b.size ≤ 1073741824
    · simp only [strV, hb, if_true, Option.some.injEq] at e
      subst e
      simp [binOp, Op.stringOp]
      omega
    · simp [strV, hb] at e
  all_goals first
    | (cases e; done)
    | (simp only [strV, Option.some.injEq] at e; subst e; simp [binOp, Op.stringOp])
theorem arithV_run {op : BinOp} {x y : Value} {v : Value} (e : arithV op x y = some v) (t : TypeId) (w : World) :
    (binOp op t x y).run P w = .ok v w := by
  unfold arithV at e
  split at e
  · split at e
    · exact shiftV_run e t w
    · exact shiftV_run e t w
    · split at e
      · rename_i hq; subst hq; exact intV_run e t w
      · cases e
  · exact strV_run e t w
  · cases e
theorem arith_guard {op : BinOp} {x y : Value} {v : Value} (e : arithV op x y = some v) (t : TypeId) (a b : Operand) : eqGuard op t a b x y = pure () := by
  unfold arithV at e
  split at e
  · exact eqGuard_at_int ..
  · exact eqGuard_at_string ..
  · cases e
theorem nilEqV_run {t : TypeId} {x y : Value} {b : Bool} (e : nilEqV P t x y = some b) (w : World) : (Op.equal t x y).run P w = .ok b w := by
  unfold nilEqV at e
  split at e
  · rename_i hu; cases e; exact run_equal_bool w t _ _ hu
  · rename_i el a hu; cases e
    exact run_equalIn_pointer_nil w 9999 t a (by simp [Program.pointee, hu])
  · rename_i el a l c hu; cases e
    exact run_equal_slice_nil w t el a l c hu
  · rename_i kt el a hu; cases e
    exact run_equal_map_nil w t kt el a hu
  · cases e
theorem nilEq_guard {t : TypeId} {x y : Value} {b : Bool} (e : nilEqV P t x y = some b) (op : BinOp) (p q : Operand) : eqGuard op t p q x y = pure () := by
  unfold nilEqV at e
  split at e
  · exact eqGuard_at_bool ..
  · exact eqGuard_at_pointer ..
  · exact eqGuard_at_slice ..
  · exact eqGuard_at_map ..
  · cases e
theorem nilEq_bin {t : TypeId} {x y : Value} {b : Bool} (e : nilEqV P t x y = some b) : binOp .eql t x y = (do pure (.bool (← Op.equal t x y))) ∧ binOp .neq t x y = (do pure (.bool (!(← Op.equal t x y)))) := by
  unfold nilEqV at e
  split at e <;> first | (exact ⟨rfl, rfl⟩) | cases e
theorem binK_sound {op : BinOp} {t : TypeId} {x y : Value} {p q : Operand} (e : binK P op t x y fun v => k v h) :
    QA P (do eqGuard op t p q x y; binOp op t x y) h fun v => k v h := by
  unfold binK at e
  split at e
  · rename_i v hv
    refine .of_run (fun w => ?_) e
    rw [arith_guard hv, Sem.run_bind]
    exact arithV_run hv t w
  · split at e
    · rename_i xs ys _
      have agg : ∀ {g : Bool → Prop}, eqAggK P t (.agg xs) (.agg ys) g → P.eqGuardType P.depth t = false ∧ ∃ r : Bool, g r ∧ ∀ w, (Op.equalIn 10000 t (.agg xs) (.agg ys)).run P w = .ok r w := by
        intro g e
        obtain ⟨hc, e⟩ := chk_elim e
        simp only [Bool.and_eq_true, Bool.not_eq_true'] at hc
        obtain ⟨lx, hlx, e⟩ := optK_elim e
        obtain ⟨ly, hly, e⟩ := optK_elim e
        refine ⟨hc.1.1.2, _, e, fun w => ?_⟩
        obtain ⟨r, hr, hi⟩ := run_equalIn_deep 9990 10 t hc.1.1.1 w 10 10 _ _ lx ly hc.1.2 hc.2 hlx hly
        rw [hr]
        congr 1
        by_cases hl : lx = ly
        · rw [hi.2 hl]; simp [hl]
        · have : r = false := by cases r with | true => exact absurd (hi.1 rfl) hl | false => rfl
          rw [this]; simp [hl]
      split at e
      · obtain ⟨hg, r, hk, hr⟩ := agg e
        refine ⟨.bool r, hk, fun w _ => ?_⟩
        rw [Sem.run_bind, run_eqGuard_agg w .eql t p q xs ys hg, Result.andThen_ok, run_eql_struct, hr]; rfl
      · obtain ⟨hg, r, hk, hr⟩ := agg e
        refine ⟨.bool !r, hk, fun w _ => ?_⟩
        rw [Sem.run_bind, run_eqGuard_agg w .neq t p q xs ys hg, Result.andThen_ok, run_neq_struct, hr]; rfl
      · exact e.elim
    · split at e
      · obtain ⟨b, hb, e⟩ := optK_elim e
        refine .of_run (fun w => ?_) e
        rw [nilEq_guard hb, Sem.run_bind, (nilEq_bin hb).1]
        simp [nilEqV_run hb]
      · obtain ⟨b, hb, e⟩ := optK_elim e
        refine .of_run (fun w => ?_) e
        rw [nilEq_guard hb, Sem.run_bind, (nilEq_bin hb).2]
        simp [nilEqV_run hb]
      · exact e.elim
def unK (op : UnOp) (x : Value) (k : Value → Prop) : Prop :=
  match op, x with
  | .not, .bool b => k (.bool !b)
  | .neg, .int q n => k (.int q (q.wrap (0 - n)))
  | .xor, .int q n => k (.int q (bits .xor q (if q.signed then -1 else q.max) n))
  | _, _ => False
theorem unK_sound {op : UnOp} {x : Value} (e : unK op x fun v => k v h) : QA P (Op.unary op x) h fun v => k v h := by
  unfold unK at e
  split at e
  · exact .of_run (fun w => by simp [Op.unary]) e
  · exact .of_run (fun w => by simp [Op.unary, Op.intArith]) e
  · exact .of_run (fun w => by simp [Op.unary]; rfl) e
  · exact e.elim
def convIntK (q : IntKind) (x : Value) (k : Value → Prop) : Prop := intK x fun _ n => k (.int q (q.wrap n))
def lenSK (x : Value) (k : Value → Prop) : Prop := sliceK x fun _ n _ => k (.int .i64 n)
def lenTK (x : Value) (k : Value → Prop) : Prop := strK x fun s => k (.int .i64 s.size)
def lenMK (x : Value) (h : Hp) (k : Value → Prop) : Prop :=
  match x with
  | .map none => k (.int .i64 0)
  | .map (some r) => mapK h r fun es _ => k (.int .i64 es.length)
  | _ => False
def lenOp (P : Program) (t : TypeId) (x : Value) (h : Hp) (k : Value → Hp → Prop) : Prop :=
  match P.underlying t with
  | some (.array n _) => k (.int .i64 n) h
  | some (.pointer a) => match P.underlying a with | some (.array n _) => k (.int .i64 n) h | _ => False
  | some .string => lenTK x fun v => k v h
  | some (.slice _) => lenSK x fun v => k v h
  | some (.map _ _) => lenMK x h fun v => k v h
  | _ => False
theorem lenOp_sound {t ty : TypeId} {ts : Array TypeId} {x : Value} (ht : ts[0]? = some t) (e : lenOp P t x h k) : QA P (Builtin.len_ ts ty #[x]) h fun v => k v h := by
  have hx : (#[x] : Array Value)[0]? = some x := rfl
  unfold lenOp at e
  split at e
  · rename_i n el hu
    exact .of_run (fun w => by simp [Builtin.len_, ht, run_underlying hu, goInt]) e
  · rename_i a hu; split at e
    · rename_i n el hu'
      exact .of_run (fun w => by simp [Builtin.len_, ht, run_underlying hu, run_underlying hu', goInt]) e
    · exact e.elim
  · rename_i hu
    obtain ⟨s, rfl, e⟩ := strK_elim e
    exact .of_run (fun w => by simp [Builtin.len_, ht, run_underlying hu, goInt]) e
  · rename_i el hu
    obtain ⟨a, n, c, rfl, e⟩ := sliceK_elim e
    exact .of_run (fun w => by simp [Builtin.len_, ht, run_underlying hu, goInt]) e
  · rename_i kt el hu
    unfold lenMK at e
    split at e
    · exact .of_run (fun w => by simp [Builtin.len_, ht, run_underlying hu, goInt]) e
    · obtain ⟨es, c, hm, e⟩ := mapK_elim e
      simp only [Builtin.len_, ht, hx]
      refine .bind (.underlying hu (.bind (.getMap hm ?_)))
      exact .pure (by simpa [goInt] using e)
    · exact e.elim
  · exact e.elim
def mm2K (mx : Bool) (x y : Value) (k : Value → Prop) : Prop :=
  intK x fun q a => intK y fun _ b => k (.int q (if mx then (if b > a then b else a) else (if b < a then b else a)))
theorem max_sound {ts : Array TypeId} {ty : TypeId} {x y : Value} (e : mm2K true x y fun v => k v h) : QA P (Builtin.max_ ts ty #[x, y]) h fun v => k v h := by
  obtain ⟨q, a, rfl, e1⟩ := intK_elim e
  obtain ⟨q', b, rfl, e'⟩ := intK_elim e1
  exact .of_run (fun w => run_max_int2 w ts ty q q' a b) e'
theorem min_sound {ts : Array TypeId} {ty : TypeId} {x y : Value} (e : mm2K false x y fun v => k v h) : QA P (Builtin.min_ ts ty #[x, y]) h fun v => k v h := by
  obtain ⟨q, a, rfl, e1⟩ := intK_elim e
  obtain ⟨q', b, rfl, e'⟩ := intK_elim e1
  exact .of_run (fun w => run_min_int2 w ts ty q q' a b) e'
end
end Go.Sl
/-
  Part 7: append, copy, clear; bytes and strings.
-/
namespace Go.Sl
open Go
def bytesV (l : List UInt8) : List Value := l.map fun b => .int .u8 b.toNat
@[simp] theorem bytesV_length (l : List UInt8) : (bytesV l).length = l.length := by simp [bytesV]
section
variable {P : Program} {h : Hp} {k : Value → Hp → Prop}
/-- The cells that are appended or copied: n elements of sz cells. -/
def srcK (x : Value) (n sz : Nat) (h : Hp) (k : List Value → Prop) : Prop :=
  match x with
  | .slice none _ _ => k []
  | .slice (some ⟨b, o, none⟩) _ _ => cellsK h b fun c => chk (decide (o + n * sz ≤ c.length)) (k ((c.drop o).take (n * sz)))
  | .string s => k (bytesV (s.data.toList.take n))
  | _ => False
theorem srcK_sound {x : Value} {n sz : Nat} {kk : List Value → Prop} (e : srcK x n sz h kk) {k : Array Value → Hp → Prop} (hk : ∀ l, kk l → k l.toArray h) :
    SemA P (Builtin.firstCells sz n x) h k := by
  unfold srcK at e; split at e
  · exact .pure (hk _ e)
  · obtain ⟨c, wr, hc, e⟩ := cellsK_elim e
    obtain ⟨hl, e⟩ := chk_elim e
    exact .loadCells hc (by simpa using hl) (hk _ e)
  · rename_i s
    refine .pure ?_
    have := hk _ e
    have hx : (s.extract 0 n).data.map (fun b => Value.int .u8 b.toNat) = (bytesV (s.data.toList.take n)).toArray := by
      apply Array.ext'
      simp [bytesV, ByteArray.data_extract, Array.toList_extract, List.extract_eq_take_drop]
    rw [hx]; exact this
  · exact e.elim
def lenOfK (x : Value) (k : Nat → Prop) : Prop :=
  match x with
  | .slice _ n _ => k n
  | .string s => k s.size
  | _ => False
theorem lenOfK_elim {x : Value} {k : Nat → Prop} (e : lenOfK x k) : ∃ n, (∀ (P : Program) w, (Builtin.lenOf x).run P w = .ok n w) ∧ k n := by
  unfold lenOfK at e; split at e
  · exact ⟨_, fun _ _ => rfl, e⟩
  · exact ⟨_, fun _ _ => rfl, e⟩
  · exact e.elim
def copyK (sz : Nat) (d x : Value) (h : Hp) (k : Value → Hp → Prop) : Prop :=
  sliceK d fun a dl _ => lenOfK x fun sl => srcK x (min sl dl) sz h fun l =>
    match a with
    | none => k (.int .i64 (min sl dl : Nat)) h
    | some ⟨b, o, none⟩ => wcellsK h b fun c => chk (decide (o + l.length ≤ c.length) && l.all one) (k (.int .i64 (min sl dl : Nat)) (upd h b (.cells (over c o l) true)))
    | _ => False
def copyOp (P : Program) (t : TypeId) (d x : Value) (h : Hp) (k : Value → Hp → Prop) : Prop := sliceTK P t fun el => sizeK P el fun sz => copyK sz d x h k
theorem copyOp_sound {t ty : TypeId} {ts : Array TypeId} {d x : Value} (ht : ts[0]? = some t) (e : copyOp P t d x h k) : SemA P (Builtin.copy_ ts ty #[d, x]) h k := by
  obtain ⟨el, hu, e⟩ := sliceTK_elim e
  obtain ⟨i, hi, e⟩ := sizeK_elim e
  obtain ⟨a, dl, c, rfl, e⟩ := sliceK_elim e
  obtain ⟨sl, hs, e⟩ := lenOfK_elim e
  simp only [Builtin.copy_, ht, show (#[Value.slice a dl c, x] : Array Value)[0]? = some (.slice a dl c) from rfl, show (#[Value.slice a dl c, x] : Array Value)[1]? = some x from rfl]
  refine .bind (.underlying hu (.bind (.of_run (hs P) (.bind (.sizeOf hi (.bind (srcK_sound e fun l e => ?_)))))))
  split at e
  · exact .pure e
  · obtain ⟨cs, hc, e⟩ := wcellsK_elim e
    obtain ⟨hl, e⟩ := chk_elim e
    simp only [Bool.and_eq_true, decide_eq_true_eq] at hl
    exact .bind (SemA.storeCells _ _ 0 _ cs hc (by simpa using hl.1) hl.2 (.pure e))
  · exact e.elim
theorem zeroCells_rep (z : Array Value) (n : Nat) (hz : 0 < z.size ∨ n = 0) : Builtin.zeroCells z n = (repL n z.toList).toArray := range_rep z n hz
def clearOp (P : Program) (t : TypeId) (x : Value) (h : Hp) (k : Value → Hp → Prop) : Prop :=
  match P.underlying t, x with
  | some (.map _ _), .map (some r) => mapK h r fun _ cl => k (.tuple #[]) (upd h r (.map [] cl))
  | some (.slice el), .slice (some ⟨b, o, none⟩) n _ => zeroK P el fun z => chk (decide (0 < n) && decide (0 < z.length)) (wcellsK h b fun c => chk (decide (o + (repL n z).length ≤ c.length) && (repL n z).all one)
      (k (.tuple #[]) (upd h b (.cells (over c o (repL n z)) true))))
  | _, _ => False
theorem clearOp_sound {t ty : TypeId} {ts : Array TypeId} {x : Value} (ht : ts[0]? = some t) (e : clearOp P t x h k) : SemA P (Builtin.clear_ ts ty #[x]) h k := by
  unfold clearOp at e
  split at e
  · rename_i kt el r hu
    obtain ⟨es, c, hm, e⟩ := mapK_elim e
    simp only [Builtin.clear_, ht, show (#[Value.map (some r)] : Array Value)[0]? = some (.map (some r)) from rfl]
    exact .bind (.underlying hu (.bind (.getMap hm (.bind (.setMap (es' := []) hm (.pure e))))))
  · rename_i el b o n cp hu
    obtain ⟨i, z, hi, hz, e⟩ := zeroK_elim e
    obtain ⟨h0, e⟩ := chk_elim e
    obtain ⟨c, hc, e⟩ := wcellsK_elim e
    obtain ⟨hl, e⟩ := chk_elim e
    simp only [Bool.and_eq_true, decide_eq_true_eq] at hl h0
    obtain ⟨n, rfl⟩ : ∃ m, n = m + 1 := ⟨n - 1, by omega⟩
    simp only [Builtin.clear_, ht, show (#[Value.slice (some ⟨b, o, none⟩) (n + 1) cp] : Array Value)[0]? = some (.slice (some ⟨b, o, none⟩) (n + 1) cp) from rfl]
    refine .bind (.underlying hu (.bind (.zeroValue hi hz ?_)))
    rw [zeroCells_rep _ _ (.inl (by have := h0.2; simpa [cellsL] using this))]
    exact .bind (SemA.storeCells _ _ 0 _ c hc (by simpa [cellsL] using hl.1) hl.2 (.pure e))
  · exact e.elim

-- append
theorem growBy_le (n : Nat) : ∀ (r c : Nat), c ≤ 2 * n + 200 → Builtin.growBy n r c ≤ 2 * n + 200 := by
  intro r
  induction r with
  | zero => intro c hc; exact hc
  | succ r ih =>
    intro c hc
    simp only [Builtin.growBy]
    split
    · exact hc
    · exact ih _ (by omega)
theorem nextcap_le (n c : Nat) (hc : c < n) : Builtin.nextslicecap n c ≤ 2 * n + 200 := by
  unfold Builtin.nextslicecap
  split
  · omega
  · split
    · omega
    · exact growBy_le n 4 c (by omega)
def appTail (sz : Nat) (z : List Value) (s : Value) (m : Nat) (new : List Value) (h : Hp) (k : Value → Hp → Prop) : Prop :=
  sliceK s fun a n c =>
    chk (decide (n + m ≤ 16777216))
    (((n + m ≤ c → match a with
        | none => k (.slice none (n + m) c) h
        | some ⟨b, o, none⟩ => wcellsK h b fun cs => chk (decide (o + n * sz + new.length ≤ cs.length) && new.all one) (k (.slice a (n + m) c) (upd h b (.cells (over cs (o + n * sz) new) true)))
        | _ => False) ∧
      (c < n + m → srcK s n sz h fun old => ∀ b c', h b = none → n + m ≤ c' → k (.slice (some ⟨b, 0, none⟩) (n + m) c') (upd h b (.cells (old ++ new ++ repL (c' - (n + m)) z) true)))))
def appK (sz : Nat) (z : List Value) (s x : Value) (h : Hp) (k : Value → Hp → Prop) : Prop :=
  lenOfK x fun m => srcK x m sz h fun new => appTail sz z s m new h k
def appZK (sz : Nat) (z : List Value) (s x : Value) (h : Hp) (k : Value → Hp → Prop) : Prop :=
  intK x fun _ m => chk (decide (0 ≤ m) && decide (m ≤ 1048576)) (appTail sz z s m.toNat (repL m.toNat z) h k)
def appendOp (P : Program) (t xt : TypeId) (s x : Value) (h : Hp) (k : Value → Hp → Prop) : Prop :=
  sliceTK P t fun el => sizeK P el fun sz => zeroK P el fun z => chk (decide (z.length = sz) && decide (0 < sz) && decide (P.bytesOf el ≤ 1048576) && decide (0 < P.bytesOf el))
    (match P.underlying xt with
    | some (.int _) => appZK sz z s x h k
    | some _ => appK sz z s x h k
    | none => False)
theorem appendOp_sound {t xt ty : TypeId} {ts : Array TypeId} {s x : Value} (ht : ts[0]? = some t) (hx : ts[1]? = some xt) (e : appendOp P t xt s x h k) :
    SemA P (Builtin.append_ ts ty #[s, x]) h k := by
  obtain ⟨el, hu, e⟩ := sliceTK_elim e
  obtain ⟨i, hi, e⟩ := sizeK_elim e
  obtain ⟨i', z, hi', hz, e⟩ := zeroK_elim e
  rw [hi] at hi'; cases hi'
  obtain ⟨hc, e⟩ := chk_elim e
  simp only [Bool.and_eq_true, decide_eq_true_eq, Program.bytesOf, hi, Option.map_some, Option.getD_some] at hc
  obtain ⟨⟨⟨hzs, hs0⟩, hb1⟩, hb0⟩ := hc
  have hzsz : z.cells.size = i.size := by simpa [cellsL] using hzs
  have hn0 : (i.bytes : Int) ≠ 0 := by omega
  have hcap : ∀ n c : Nat, n ≤ 16777216 → c < n → ¬ (Builtin.nextslicecap n c * i.bytes > 2 ^ 48) := by
    intro n c hn hcn
    have h1 := nextcap_le n c hcn
    have : Builtin.nextslicecap n c * i.bytes ≤ (2 * n + 200) * 1048576 := Nat.mul_le_mul h1 hb1
    omega
  have hmax : ∀ n : Nat, n ≤ 16777216 → ¬ ((n : Int) > IntKind.i64.max) := by intro n hn; rw [IntKind.max_i64]; omega
  split at e
  · rename_i q hux
    obtain ⟨q, m, rfl, e1⟩ := intK_elim e
    obtain ⟨hm, e2⟩ := chk_elim e1
    obtain ⟨a, n, c, rfl, e3⟩ := sliceK_elim e2
    clear e e1 e2
    simp only [Bool.and_eq_true, decide_eq_true_eq] at hm
    obtain ⟨hn, e1, e2⟩ := chk_elim e3
    simp only [decide_eq_true_eq] at hn
    simp only [Builtin.append_, ht, hx, show (#[Value.slice a n c, Value.int q m] : Array Value)[0]? = some (.slice a n c) from rfl, show (#[Value.slice a n c, Value.int q m] : Array Value)[1]? = some (.int q m) from rfl]
    refine .bind (.underlying hu (.bind (.sizeOf hi (.bind (.underlying hux (.bind (.pure ?_)))))))
    have hw : IntKind.i64.wrap m = m := wrap_i64 hm.1 (by omega)
    refine .bind (.of_run (a := m) (fun _ => rfl) ?_)
    simp only [hw, if_true, Bool.not_true, Bool.false_eq_true, if_false, if_neg (show ¬ m < 0 by omega)]
    have hmb : ¬ (m * (i.bytes : Int) > 2 ^ 48) := by
      have : m * (i.bytes : Int) ≤ 1048576 * 1048576 := by
        have a : (i.bytes : Int) ≤ 1048576 := by omega
        calc m * (i.bytes : Int) ≤ m * 1048576 := Int.mul_le_mul_of_nonneg_left a hm.1
          _ ≤ 1048576 * 1048576 := Int.mul_le_mul_of_nonneg_right hm.2 (by omega)
      omega
    refine .bind (.typeInfo hi ?_)
    simp only [if_neg hmb]
    refine .bind (.pure ?_)
    have hnew : ∀ {kk : Array Value → Hp → Prop} {h : Hp}, kk (repL m.toNat (cellsL z)).toArray h → SemA P (if m.toNat * i.size = 0 then pure #[] else do pure (Builtin.zeroCells (← zeroValue el).cells m.toNat)) h kk := by
      intro kk h hk
      by_cases h0 : m.toNat * i.size = 0
      · rw [if_pos h0]
        have : m.toNat = 0 := by rcases Nat.mul_eq_zero.1 h0 with h | h; exact h; omega
        rw [this] at hk; exact .pure hk
      · rw [if_neg h0]
        refine .bind (.zeroValue hi hz (.pure ?_))
        rw [zeroCells_rep _ _ (.inl (by omega))]; exact hk
    by_cases hroom : n + m.toNat ≤ c
    · rw [if_pos hroom]
      have e1 := e1 hroom
      refine .bind (hnew ?_)
      cases a with
      | none => exact .pure e1
      | some a =>
        obtain ⟨b, o, sp⟩ := a
        cases sp with
        | some _ => exact e1.elim
        | none =>
          obtain ⟨cs, hcs, e1⟩ := wcellsK_elim e1
          obtain ⟨hl, e1⟩ := chk_elim e1
          simp only [Bool.and_eq_true, decide_eq_true_eq] at hl
          dsimp only
          rw [addr_add]
          exact .bind (SemA.storeCells _ _ 0 _ cs hcs (by simpa using hl.1) hl.2 (.pure e1))
    · rw [if_neg hroom]
      have e2 := e2 (by omega)
      refine .bind (.typeInfo hi ?_)
      rw [if_neg (by intro hh; exact hmax _ hn hh.1)]
      refine .bind (.typeInfo hi ?_)
      rw [if_neg (hcap _ _ hn (by omega))]
      refine .bind (.choose_cut fun nc _ h2 => .bind (.typeInfo hi (.bind (.askRoom (.bind (srcK_sound e2 fun old e2 => .bind (hnew (.bind (.zeroValue hi hz ?_)))))))))
      have hnc : n + m.toNat ≤ nc := by
        obtain ⟨t, ht⟩ := h2 rfl
        rw [ht]; simp only [Question.cut]; omega
      refine .bind (newRow_sound fun b hb => .pure ?_)
      have := e2 b nc hb hnc
      rw [zeroCells_rep _ _ (.inl (by omega))]
      simpa [cellsL] using this
  · rename_i d hni hux
    obtain ⟨m, hm, e1⟩ := lenOfK_elim e
    clear e
    have e := e1; clear e1
    simp only [Builtin.append_, ht, hx, show (#[s, x] : Array Value)[0]? = some s from rfl, show (#[s, x] : Array Value)[1]? = some x from rfl]
    refine .bind (.underlying hu ?_)
    dsimp only
    have hint : (match d with | .int _ => true | _ => false) = false := by cases d <;> first | rfl | exact (hni _ rfl).elim
    have hsl : ∃ a n c, s = .slice a n c := by
      unfold srcK at e
      split at e
      · obtain ⟨a, n, c, rfl, _⟩ := sliceK_elim e; exact ⟨_, _, _, rfl⟩
      · obtain ⟨_, _, _, e⟩ := cellsK_elim e
        obtain ⟨a, n, c, rfl, _⟩ := sliceK_elim (chk_elim e).2; exact ⟨_, _, _, rfl⟩
      · obtain ⟨a, n, c, rfl, _⟩ := sliceK_elim e; exact ⟨_, _, _, rfl⟩
      · exact e.elim
    obtain ⟨a, n, c, rfl⟩ := hsl
    refine .bind (.sizeOf hi (.bind (.underlying hux (.bind (.pure ?_)))))
    simp only [Bool.false_eq_true, if_false, Bool.not_false, if_true, false_or]
    refine .bind (.of_run (hm P) ?_)
    have hl : ∀ {kk : Array Value → Hp → Prop}, (∀ l, appTail i.size (cellsL z) (.slice a n c) m l h k → kk l.toArray h) → SemA P (Builtin.firstCells i.size m x) h kk := fun hk => srcK_sound e hk
    have hn : n + m ≤ 16777216 := by
      unfold srcK at e
      have : ∀ l, appTail i.size (cellsL z) (.slice a n c) m l h k → n + m ≤ 16777216 := fun l e => by simpa using (chk_elim e).1
      split at e
      · exact this _ e
      · obtain ⟨_, _, _, e⟩ := cellsK_elim e
        exact this _ (chk_elim e).2
      · exact this _ e
      · exact e.elim
    by_cases hroom : n + m ≤ c
    · rw [if_pos hroom]
      refine .bind (hl fun new e => ?_)
      obtain ⟨_, e1, _⟩ := chk_elim e
      have e1 := e1 hroom
      cases a with
      | none => exact .pure e1
      | some a =>
        obtain ⟨b, o, sp⟩ := a
        cases sp with
        | some _ => exact e1.elim
        | none =>
          obtain ⟨cs, hcs, e1⟩ := wcellsK_elim e1
          obtain ⟨hl, e1⟩ := chk_elim e1
          simp only [Bool.and_eq_true, decide_eq_true_eq] at hl
          dsimp only
          rw [addr_add]
          exact .bind (SemA.storeCells _ _ 0 _ cs hcs (by simpa using hl.1) hl.2 (.pure e1))
    · rw [if_neg hroom]
      refine .bind (.typeInfo hi ?_)
      rw [if_neg (by intro hh; exact hmax _ hn hh.1)]
      refine .bind (.typeInfo hi ?_)
      rw [if_neg (hcap _ _ hn (by omega))]
      refine .bind (.choose_cut fun nc _ h2 => .bind (.typeInfo hi (.bind (.askRoom (.bind ?_)))))
      have hnc : n + m ≤ nc := by
        obtain ⟨t, ht⟩ := h2 rfl
        rw [ht]; simp only [Question.cut]; omega
      -- the old cells are read first, then the new ones: both off one heap
      have hold : ∃ old, (∀ {kk : Array Value → Hp → Prop}, kk old h → SemA P (Builtin.firstCells i.size n (.slice a n c)) h kk) ∧
          ∀ new, appTail i.size (cellsL z) (.slice a n c) m new h k → ∀ b c', h b = none → n + m ≤ c' → k (.slice (some ⟨b, 0, none⟩) (n + m) c') (upd h b (.cells (old.toList ++ new ++ repL (c' - (n + m)) (cellsL z)) true)) := by
        have src : ∀ l, appTail i.size (cellsL z) (.slice a n c) m l h k → ∃ old : List Value, (∀ {kk : Array Value → Hp → Prop}, kk old.toArray h → SemA P (Builtin.firstCells i.size n (.slice a n c)) h kk) ∧
            ∀ g : List Value → Prop, srcK (.slice a n c) n i.size h g → g old := by
          intro l e
          obtain ⟨_, _, e2⟩ := chk_elim e
          have e2 := e2 (by omega)
          cases a with
          | none => exact ⟨[], fun hk => .pure hk, fun g e => e⟩
          | some a =>
            obtain ⟨b, o, sp⟩ := a
            cases sp with
            | some _ => exact e2.elim
            | none =>
              obtain ⟨cs, wr, hc, e2⟩ := cellsK_elim e2
              obtain ⟨hl, _⟩ := chk_elim e2
              refine ⟨(cs.drop o).take (n * i.size), fun hk => .loadCells hc (by simpa using hl) hk, fun g e => ?_⟩
              obtain ⟨cs', wr', hc', e⟩ := cellsK_elim e
              rw [hc] at hc'; cases hc'
              exact (chk_elim e).2
        have ex : ∃ l, appTail i.size (cellsL z) (.slice a n c) m l h k := by
          unfold srcK at e
          split at e
          · exact ⟨_, e⟩
          · obtain ⟨_, _, _, e⟩ := cellsK_elim e
            exact ⟨_, (chk_elim e).2⟩
          · exact ⟨_, e⟩
          · exact e.elim
        obtain ⟨l, hl0⟩ := ex
        obtain ⟨old, h1, h2⟩ := src l hl0
        refine ⟨old.toArray, h1, fun new e => ?_⟩
        obtain ⟨_, _, e2⟩ := chk_elim e
        exact h2 _ (e2 (by omega))
      obtain ⟨old, h1, h2⟩ := hold
      refine h1 (.bind (hl fun new e => .bind (.zeroValue hi hz ?_)))
      refine .bind (newRow_sound fun b hb => .pure ?_)
      have := h2 new e b nc hb hnc
      rw [zeroCells_rep _ _ (.inl (by omega))]
      simpa [cellsL] using this
  · exact e.elim

-- bytes and strings
def strBytesK (s : ByteArray) (h : Hp) (k : Value → Hp → Prop) : Prop :=
  ∀ b c, h b = none → s.size ≤ c → k (.slice (some ⟨b, 0, none⟩) s.size c) (upd h b (.cells (bytesV s.data.toList ++ List.replicate (c - s.size) (.int .u8 0)) true))
theorem freeze_new (w : World) (cs : Array Value) (el : TypeId) (c : Nat) : (w.alloc (.cells cs el)).freeze ⟨w.heap.size, c, none⟩ 1 = w.alloc (.cells cs el (c, c + 1)) := by
  unfold World.freeze
  rw [if_neg (by decide)]
  show ({ w with heap := (w.heap.push (.cells cs el)).modify w.heap.size _ } : World) = { w with heap := w.heap.push _ }
  congr 1
  apply Array.ext_getElem?
  intro i
  rw [Array.getElem?_modify, Array.getElem?_push, Array.getElem?_push]
  by_cases hi : w.heap.size = i
  · subst hi; simp
  · rw [if_neg hi, if_neg (Ne.symm hi), if_neg (Ne.symm hi)]
theorem strBytesK_sound {el : TypeId} {s : ByteArray} (e : strBytesK s h k) : SemA P (Conv.stringToBytes el s) h k := by
  refine .bind (.choose_cut fun c _ h2 => ?_)
  have hc : s.size ≤ c := by
    obtain ⟨t, ht⟩ := h2 rfl
    rw [ht]; simp only [Question.cut]; omega
  intro w r
  have hcs : (s.data.map (fun b => Value.int .u8 b.toNat) ++ Array.replicate (c - s.size) (Value.int .u8 0)) = (bytesV s.data.toList ++ List.replicate (c - s.size) (Value.int .u8 0)).toArray := by
    apply Array.ext'; simp [bytesV]
  have hlen : (bytesV s.data.toList ++ List.replicate (c - s.size) (Value.int .u8 0)).length = c := by simp; have : s.data.size = s.size := rfl; omega
  refine ⟨_, _, (w.alloc (.cells (bytesV s.data.toList ++ List.replicate (c - s.size) (Value.int .u8 0)).toArray el (c, c + 1))), ?_, e _ c r.fresh hc,
    r.alloc ⟨el, (c, c + 1), rfl, fun _ j hj => by rw [hlen] at hj; simp; omega⟩, .alloc h w _ _⟩
  have e1 : (newRow el (bytesV s.data.toList ++ List.replicate (c - s.size) (Value.int .u8 0)).toArray).run P w = .ok ⟨w.heap.size, 0, none⟩ (w.alloc (.cells (bytesV s.data.toList ++ List.replicate (c - s.size) (Value.int .u8 0)).toArray el)) := rfl
  have e2 : (w.alloc (.cells (bytesV s.data.toList ++ List.replicate (c - s.size) (Value.int .u8 0)).toArray el)).shape? w.heap.size = some (el, c) := by
    show (match (w.heap.push _)[w.heap.size]? with | some (.cells c elem _) => some (elem, c.size) | _ => none) = _
    simp [hlen]
  dsimp only
  rw [hcs, Sem.run_bind, e1]
  simp only [Result.andThen_ok, markStringish, Sem.run_bind, run_shape, e2, run_freeze, freeze_new, Sem.run_pure]
def numsOf : List Value → Option (List UInt8)
  | [] => some []
  | .int .u8 n :: l => (numsOf l).map fun r => UInt8.ofNat n.toNat :: r
  | _ => none
def bytesStrK (x : Value) (h : Hp) (k : Value → Prop) : Prop :=
  match x with
  | .slice none _ _ => k (.string ⟨#[]⟩)
  | .slice (some ⟨b, o, none⟩) n _ => cellsK h b fun c => chk (decide (o + n ≤ c.length)) (optK (numsOf ((c.drop o).take n)) fun l => k (.string ⟨l.toArray⟩))
  | _ => False
theorem numsOf_ints : ∀ (c : List Value) (l : List UInt8), numsOf c = some l → ∃ ns : List Int, c = ns.map (Value.int .u8) ∧ l = ns.map fun n => UInt8.ofNat n.toNat := by
  intro c
  induction c with
  | nil => intro l e; simp only [numsOf, Option.some.injEq] at e; subst e; exact ⟨[], rfl, rfl⟩
  | cons v c ih =>
    intro l e
    unfold numsOf at e
    split at e
    · cases ‹_ = []›
    · rename_i n l' hv
      cases hv
      cases hr : numsOf c with
      | none => rw [hr] at e; cases e
      | some r =>
        rw [hr] at e; cases e
        obtain ⟨ns, rfl, rfl⟩ := ih r hr
        exact ⟨n :: ns, rfl, rfl⟩
    · cases e
theorem foldl_push : ∀ (ns : List Int) (r : ByteArray), ns.foldl (fun r n => r.push (UInt8.ofNat n.toNat)) r = ⟨r.data ++ (ns.map fun n => UInt8.ofNat n.toNat).toArray⟩ := by
  intro ns
  induction ns with
  | nil => intro r; simp
  | cons n ns ih => intro r; rw [List.foldl_cons, ih]; simp [ByteArray.push]
theorem bytesStrK_sound {x : Value} (e : bytesStrK x h fun v => k v h) : QA P (Conv.bytesToString x) h fun v => k v h := by
  unfold bytesStrK at e
  split at e
  · exact .pure e
  · obtain ⟨c, wr, hc, e⟩ := cellsK_elim e
    obtain ⟨hl, e⟩ := chk_elim e
    obtain ⟨l, hn, e⟩ := optK_elim e
    obtain ⟨ns, h1, rfl⟩ := numsOf_ints _ _ hn
    simp only [decide_eq_true_eq] at hl
    refine ⟨_, e, fun w r => ?_⟩
    have hrun := loadCells_run (P := P) r hc hl
    rw [h1] at hrun
    rw [run_bytesToString w _ _ _ ns hrun, foldl_push]
    simp
  · exact e.elim
end
end Go.Sl
