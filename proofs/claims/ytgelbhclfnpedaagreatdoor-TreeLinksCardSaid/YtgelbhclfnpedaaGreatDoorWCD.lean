/-
  An evaluator for closed runs. Part 5: maps; strings gone through.
-/
import Derived.Test.YtgelbhclfnpedaaGreatDoorWCC
import Derived.Test.YtgelbhclfnpedaaGreatDoorWCB
set_option linter.all false
set_option linter.unusedVariables false
set_option linter.unusedSimpArgs false
namespace Go.Sl
open Go
section
variable {ρ : Names} {H : AH} {h : Hp} {P : Program} {k : AV → AH → Bool} {kk : Value → Hp → Prop}
/-- A key without blocks. -/
noncomputable def keyE (a : AV) (k : Value → Bool) : Bool := match a with
  | .v x => k x
  | .agg l => plainE l fun l => k (.agg l.toArray)
  | _ => false
theorem keyE_elim {a : AV} {v : Value} {k : Value → Bool} (e : keyE a k = true) (g : R ρ a v) : k v = true := by
  unfold keyE at e
  split at e
  · cases g; exact e
  · cases g with
    | agg g => exact plainE_elim e g
  · cases e
noncomputable def sameE (d : TypeDesc) (x y : Value) : Option Bool := match d, x, y with
  | .string, .string a, .string b => some (bytesEq a.data.toList b.data.toList)
  | d, x, y => Instr.sameNow d x y
theorem bytesEq_beq (a b : ByteArray) : bytesEq a.data.toList b.data.toList = (a == b) := by
  rw [Bool.eq_iff_iff, bytesEq_iff]
  cases a with | mk x => cases b with | mk y =>
  show _ ↔ (x == y) = true
  rw [beq_iff_eq]
  exact ⟨fun h => Array.ext' h, fun h => by rw [h]⟩
theorem sameE_eq (d : TypeDesc) (x y : Value) : sameE d x y = Instr.sameNow d x y := by
  unfold sameE
  split
  · simp only [Instr.sameNow, bytesEq_beq]
  · rfl
abbrev FoundE := Option (Nat × Value × AV × Nat)
noncomputable def findNowE (d : TypeDesc) (key : Value) : List (AV × AV × Nat) → Nat → (FoundE → Bool) → Bool :=
  fun es => List.rec (motive := fun _ => Nat → (FoundE → Bool) → Bool) (fun _ k => k none)
    (fun e _ ih i k => keyE e.1 fun kx => match sameE d key kx with
      | some true => forceN i fun i => k (some (i, kx, e.2.1, e.2.2))
      | some false => ih (i + 1) k
      | none => false) es
inductive RF (ρ : Names) (es : List MapEntry) : FoundE → Found → Prop
  | none : RF ρ es none none
  | some {i : Nat} {kx v : Value} {a : AV} {n : Nat} {e : MapEntry} : es[i]? = some e → e.key = kx → e.born = n → e.val = v → R ρ a v → RF ρ es (some (i, kx, a, n)) (some (i, v))
theorem findNowE_sound {d : TypeDesc} {key : Value} : ∀ {es : List (AV × AV × Nat)} {es' all : List MapEntry} {i : Nat} {k : FoundE → Bool} {kk : Found → Prop}, findNowE d key es i k = true → RM ρ es es' → (∀ j, es'[j]? = all[i + j]?) →
    (∀ x y, RF ρ all x y → k x = true → kk y) → optK (Instr.findNow d key es' i) kk := by
  intro es
  induction es with
  | nil => intro es' all i k kk e g hi ok; cases g; exact ok _ _ .none e
  | cons x es ih =>
    intro es' all i k kk e g hi ok
    cases g with
    | cons g1 g2 g3 g =>
    rename_i a b n y es'
    have e : keyE a (fun kx => match sameE d key kx with
      | some true => forceN i fun i => k (some (i, kx, b, n))
      | some false => findNowE d key es (i + 1) k
      | none => false) = true := e
    have e := keyE_elim e g1
    rw [sameE_eq] at e
    split at e
    · rename_i hs
      simp only [Instr.findNow, hs, optK]
      rw [forceN_eq] at e
      exact ok _ _ (.some (by rw [← Nat.add_zero i, ← hi 0]; rfl) rfl g3 rfl g2) e
    · rename_i hs
      simp only [Instr.findNow, hs]
      exact ih e g (fun j => by rw [show i + 1 + j = i + (j + 1) by omega, ← hi (j + 1)]; rfl) ok
    · cases e
noncomputable def findAggE (P : Program) (kt : TypeId) (lk : List Lit) : List (AV × AV × Nat) → Nat → (FoundE → Bool) → Bool :=
  fun es => List.rec (motive := fun _ => Nat → (FoundE → Bool) → Bool) (fun _ k => k none)
    (fun e _ ih i k => keyE e.1 fun kx => chkE (kx.formed P kt) (optE (P.keyLits 10 kt (cellsL kx)) fun le =>
      cond (litsEq lk le) (forceN i fun i => k (some (i, kx, e.2.1, e.2.2))) (ih (i + 1) k))) es
theorem findAggE_sound {kt : TypeId} {lk : List Lit} : ∀ {es : List (AV × AV × Nat)} {es' all : List MapEntry} {i : Nat} {k : FoundE → Bool} {kk : Found → Prop}, findAggE P kt lk es i k = true → RM ρ es es' → (∀ j, es'[j]? = all[i + j]?) →
    (∀ x y, RF ρ all x y → k x = true → kk y) → findAggK P kt lk es' i kk := by
  intro es
  induction es with
  | nil => intro es' all i k kk e g hi ok; cases g; exact ok _ _ .none e
  | cons x es ih =>
    intro es' all i k kk e g hi ok
    cases g with
    | cons g1 g2 g3 g =>
    rename_i a b n y es'
    have e : keyE a (fun kx => chkE (kx.formed P kt) (optE (P.keyLits 10 kt (cellsL kx)) fun le =>
      cond (litsEq lk le) (forceN i fun i => k (some (i, kx, b, n))) (findAggE P kt lk es (i + 1) k))) = true := e
    have e := keyE_elim e g1
    obtain ⟨h1, e⟩ := chkE_elim e
    obtain ⟨le, h2, e⟩ := optE_elim e
    refine chk_true h1 ?_
    simp only [h2, optK]
    refine ⟨fun hl => ?_, fun hl => ?_⟩
    · rw [(litsEq_iff _ _).2 hl] at e
      simp only [cond_true, forceN_eq] at e
      exact ok _ _ (.some (by rw [← Nat.add_zero i, ← hi 0]; rfl) rfl g3 rfl g2) e
    · have : litsEq lk le = false := by cases hb : litsEq lk le with | false => rfl | true => exact absurd ((litsEq_iff _ _).1 hb) hl
      rw [this] at e
      exact ih e g (fun j => by rw [show i + 1 + j = i + (j + 1) by omega, ← hi (j + 1)]; rfl) ok
noncomputable def findE (P : Program) (kt : TypeId) (key : Value) (es : List (AV × AV × Nat)) (k : FoundE → Bool) : Bool :=
  match P.underlying kt with
  | some (.int q) => findNowE (.int q) key es 0 k
  | some .string => findNowE .string key es 0 k
  | some .bool => findNowE .bool key es 0 k
  | some (.struct _) => chkE (P.keyTypeAt 10 kt && key.formed P kt) (optE (P.keyLits 10 kt (cellsL key)) fun lk => findAggE P kt lk es 0 k)
  | _ => false
theorem findE_sound {kt : TypeId} {key : Value} {es : List (AV × AV × Nat)} {es' : List MapEntry} {k : FoundE → Bool} {kk : Found → Prop} (e : findE P kt key es k = true) (g : RM ρ es es')
    (ok : ∀ x y, RF ρ es' x y → k x = true → kk y) : findK P kt key es' kk := by
  have h0 : ∀ j, es'[j]? = es'[0 + j]? := fun j => by rw [Nat.zero_add]
  unfold findE at e
  split at e
  · rename_i q hu; simp only [findK, hu]; exact findNowE_sound e g h0 ok
  · rename_i hu; simp only [findK, hu]; exact findNowE_sound e g h0 ok
  · rename_i hu; simp only [findK, hu]; exact findNowE_sound e g h0 ok
  · rename_i fs hu
    obtain ⟨hc, e⟩ := chkE_elim e
    obtain ⟨lk, hl, e⟩ := optE_elim e
    simp only [findK, hu, hl, optK]
    exact chk_true hc (findAggE_sound e g h0 ok)
  · cases e
noncomputable def mapsE (a : AV) (H : AH) (k : Nat → List (AV × AV × Nat) → Nat → Bool) : Bool := match a with
  | .mp i => (match H.t.get i with | some (.map es c) => k i es c | _ => false)
  | _ => false
theorem mapsE_elim {a : AV} {v : Value} {k : Nat → List (AV × AV × Nat) → Nat → Bool} (e : mapsE a H k = true) (r : Rel ρ H h) (g : R ρ a v) :
    ∃ i es c b cap es', H.t.get i = some (.map es c) ∧ ρ[i]? = some (b, cap) ∧ v = .map (some b) ∧ h b = some (.map es' c) ∧ RM ρ es es' ∧ k i es c = true := by
  unfold mapsE at e
  split at e
  · split at e
    · rename_i hi
      obtain ⟨b, cap, es', h1, h2, h3⟩ := r.maps hi
      cases g with
      | mp hp =>
      rw [h1] at hp; cases hp
      exact ⟨_, _, _, b, cap, es', hi, h1, rfl, h2, h3, e⟩
    · cases e
  · cases e
noncomputable def zeroVE (P : Program) (t : TypeId) (k : AV → Bool) : Bool := match P.info? t with
  | some i => match i.zero with
    | some z => k (ofV z)
    | none => false
  | none => false
theorem zeroVE_elim {t : TypeId} {k : AV → Bool} (e : zeroVE P t k = true) (ρ : Names) : ∃ a v, R ρ a v ∧ k a = true ∧ ∀ kk, kk v → zeroVK P t kk := by
  unfold zeroVE at e; split at e
  · rename_i i hi; split at e
    · rename_i z hz
      exact ⟨_, _, R.ofV z, e, fun kk hk => by simp only [zeroVK, hi, hz]; exact hk⟩
    · cases e
  · cases e
noncomputable def okE (ok : Bool) (a : AV) (b : Bool) : AV := cond ok (.tup [a, .v (.bool b)]) a
theorem okE_rel {ok b : Bool} {a : AV} {v : Value} (g : R ρ a v) : R ρ (okE ok a b) (okV ok v b) := by
  cases ok
  · exact g
  · exact .tup (.cons g (.cons (.v _) .nil))
noncomputable def lookupE (P : Program) (t : TypeId) (m key : AV) (ok : Bool) (H : AH) (k : AV → AH → Bool) : Bool :=
  match P.underlying t with
  | some (.map kt el) => zeroVE P el fun z => keyE key fun kx => (match m with
    | .v (.map none) => findE P kt kx [] fun r => match r with
      | some (_, _, a, _) => k (okE ok a true) H
      | none => k (okE ok z false) H
    | m => mapsE m H fun _ es _ => findE P kt kx es fun r => match r with
      | some (_, _, a, _) => k (okE ok a true) H
      | none => k (okE ok z false) H)
  | _ => false
theorem lookupE_sound {t : TypeId} {m key : AV} {ok' : Bool} {v u : Value} (e : lookupE P t m key ok' H k = true) (r : Rel ρ H h) (g1 : R ρ m v) (g2 : R ρ key u) (ok : Here ρ H h k kk) : lookupOp P t v u ok' h kk := by
  unfold lookupE at e
  split at e
  · rename_i kt el hu
    obtain ⟨z, z', hz, e, hk⟩ := zeroVE_elim e ρ
    have e := keyE_elim e g2
    simp only [lookupOp, hu]
    refine hk _ ?_
    have fin : ∀ {es : List (AV × AV × Nat)} {es' : List MapEntry}, RM ρ es es' → (findE P kt u es fun r => match r with
      | some (_, _, a, _) => k (okE ok' a true) H
      | none => k (okE ok' z false) H) = true → findK P kt u es' fun r => match r with
        | some (_, v) => kk (okV ok' v true) h
        | none => kk (okV ok' z' false) h := by
      intro es es' g e
      refine findE_sound e g fun x y hf e => ?_
      cases hf with
      | none => exact ok.here r (okE_rel hz) e
      | some _ _ _ _ g => exact ok.here r (okE_rel g) e
    split at e
    · cases g1
      simp only [lookK, mapEsK]
      exact fin .nil e
    · obtain ⟨i, es, c, b, cap, es', hi, hb, rfl, hh, hm, f⟩ := mapsE_elim e r g1
      simp only [lookK, mapEsK, mapK, hh]
      exact fin hm f
  · cases e
theorem RM.get {es : List (AV × AV × Nat)} {es' : List MapEntry} (g : RM ρ es es') : ∀ {i : Nat} {x : AV × AV × Nat}, es[i]? = some x → ∃ e, es'[i]? = some e ∧ R ρ x.1 e.key ∧ R ρ x.2.1 e.val ∧ e.born = x.2.2 := by
  induction g with
  | nil => intro i x h; simp at h
  | cons a b c g ih =>
    intro i x h
    cases i with
    | zero => simp only [List.getElem?_cons_zero, Option.some.injEq] at h; subst h; exact ⟨_, rfl, a, b, c⟩
    | succ i => simp only [List.getElem?_cons_succ] at h; exact ih h
theorem RM.modify {es : List (AV × AV × Nat)} {es' : List MapEntry} (g : RM ρ es es') {a b : AV} {n : Nat} {f : MapEntry → MapEntry} : ∀ {i : Nat} {e : MapEntry}, es'[i]? = some e → R ρ a (f e).key → R ρ b (f e).val → (f e).born = n →
    RM ρ (es.set i (a, b, n)) (es'.modify i f) := by
  induction g with
  | nil => intro i e h; simp at h
  | cons a b c g ih =>
    intro i e h h1 h2 h3
    cases i with
    | zero => simp only [List.getElem?_cons_zero, Option.some.injEq] at h; subst h; exact .cons h1 h2 h3 g
    | succ i => simp only [List.getElem?_cons_succ] at h; exact .cons a b c (ih h h1 h2 h3)
theorem RM.append {es fs : List (AV × AV × Nat)} {es' fs' : List MapEntry} (g : RM ρ es es') (g' : RM ρ fs fs') : RM ρ (es ++ fs) (es' ++ fs') := by
  induction g with
  | nil => exact g'
  | cons a b c _ ih => exact .cons a b c ih
/-- Bits alike, plain values. -/
noncomputable def bitsE (x y : Value) : Bool := match x, y with
  | .string a, .string b => bytesEq a.data.toList b.data.toList
  | x, y => Instr.sameBits 10000 x y
theorem bitsE_eq (x y : Value) : bitsE x y = Instr.sameBits 10000 x y := by
  unfold bitsE
  split
  · simp only [Instr.sameBits, bytesEq_beq]
  · rfl
noncomputable def mapUpdE (P : Program) (t : TypeId) (m key x : AV) (H : AH) (k : AV → AH → Bool) : Bool :=
  match P.underlying t with
  | some (.map kt _) => keyE key fun kx => mapsE m H fun i es c => findE P kt kx es fun r => match r with
    | some (j, ky, _, n) => chkE (bitsE ky kx) (setC (key, x, n) es j fun es => putH H i (some (.map es c)) fun H => k (.v undef) H)
    | none => appC [(key, x, c)] es fun es => forceN (c + 1) fun c => putH H i (some (.map es c)) fun H => k (.v undef) H
  | _ => false
theorem mapUpdE_sound {t : TypeId} {m key x : AV} {v u y : Value} (e : mapUpdE P t m key x H k = true) (r : Rel ρ H h) (g1 : R ρ m v) (g2 : R ρ key u) (g3 : R ρ x y) (ok : Ok ρ k kk) : mapUpdOp P t v u y h kk := by
  unfold mapUpdE at e
  split at e
  · rename_i kt el hu
    have e := keyE_elim e g2
    obtain ⟨i, es, c, b, cap, es', hi, hb, rfl, hh, hm, f⟩ := mapsE_elim e r g1
    simp only [mapUpdOp, hu, updK, mapK, hh]
    refine findE_sound f hm fun x' y' hf f => ?_
    cases hf with
    | none =>
      have f := appC_elim _ _ _ f
      rw [forceN_eq] at f
      obtain ⟨t', f, ht⟩ := putH_elim f
      exact ok.here (r.put hi hb (.map (hm.append (.cons g2 g3 rfl .nil))) ht) (.v _) f
    | some he hk hn hv g =>
      obtain ⟨hc, f⟩ := chkE_elim f
      obtain ⟨_, f⟩ := setC_elim _ _ _ _ f
      obtain ⟨t', f, ht⟩ := putH_elim f
      rw [bitsE_eq] at hc
      dsimp only
      refine chk_true (by rw [he]; simp only [Option.map_some, Option.getD_some, hk]; exact hc) ?_
      exact ok.here (r.put hi hb (.map (hm.modify he g2 g3 hn)) ht) (.v _) f
  · cases e
noncomputable def mapEntE (P : Program) (t : TypeId) (m key : AV) (H : AH) (k : AV → AH → Bool) : Bool :=
  match P.underlying t with
  | some (.map kt el) => zeroVE P el fun z => keyE key fun kx => mapsE m H fun i es c => findE P kt kx es fun r => match r with
    | some (j, ky, x, n) => chkE (bitsE ky kx) (setC (key, x, n) es j fun es => putH H i (some (.map es c)) fun H => k (.tup [x, .v (.int .i64 n)]) H)
    | none => appC [(key, z, c)] es fun es => forceN (c + 1) fun c1 => putH H i (some (.map es c1)) fun H => k (.tup [z, .v (.int .i64 c)]) H
  | _ => false
theorem mapEntE_sound {t : TypeId} {m key : AV} {v u : Value} (e : mapEntE P t m key H k = true) (r : Rel ρ H h) (g1 : R ρ m v) (g2 : R ρ key u) (ok : Ok ρ k kk) : mapEntOp P t v u h kk := by
  unfold mapEntE at e
  split at e
  · rename_i kt el hu
    obtain ⟨z, z', hz, e, hk⟩ := zeroVE_elim e ρ
    have e := keyE_elim e g2
    obtain ⟨i, es, c, b, cap, es', hi, hb, rfl, hh, hm, f⟩ := mapsE_elim e r g1
    simp only [mapEntOp, hu]
    refine hk _ ?_
    simp only [mapK, hh]
    refine findE_sound f hm fun x' y' hf f => ?_
    cases hf with
    | none =>
      have f := appC_elim _ _ _ f
      rw [forceN_eq] at f
      obtain ⟨t', f, ht⟩ := putH_elim f
      exact ok.here (r.put hi hb (.map (hm.append (.cons g2 hz rfl .nil))) ht) (.tup (.cons hz (.cons (.v _) .nil))) f
    | some he hkk hn hv g =>
      obtain ⟨hc, f⟩ := chkE_elim f
      obtain ⟨_, f⟩ := setC_elim _ _ _ _ f
      obtain ⟨t', f, ht⟩ := putH_elim f
      rw [bitsE_eq] at hc
      dsimp only
      refine chk_true (by rw [he]; simp only [Option.map_some, Option.getD_some, hkk]; exact hc) ?_
      rw [he]
      simp only [Option.map_some, Option.getD_some, hn]
      exact ok.here (r.put hi hb (.map (hm.modify he g2 (by rw [hv]; exact g) hn)) ht) (.tup (.cons g (.cons (.v _) .nil))) f
  · cases e
noncomputable def bornE (es : List (AV × AV × Nat)) (n : Nat) : Nat → (Nat → AV → Bool) → Bool :=
  List.rec (motive := fun _ => Nat → (Nat → AV → Bool) → Bool) (fun _ _ => false) (fun e _ ih i k => cond (Nat.beq e.2.2 n) (forceN i fun i => k i e.1) (ih (i + 1) k)) es
theorem bornE_sound {n : Nat} : ∀ {es : List (AV × AV × Nat)} {es' : List MapEntry} {i : Nat} {k : Nat → AV → Bool}, bornE es n i k = true → RM ρ es es' →
    ∃ j a e, es'.findIdx? (fun e => (e.born : Int) == n) = some j ∧ es'[j]? = some e ∧ e.born = n ∧ R ρ a e.key ∧ k (i + j) a = true := by
  intro es
  induction es with
  | nil => intro es' i k e g; cases e
  | cons x es ih =>
    intro es' i k e g
    cases g with
    | cons g1 g2 g3 g =>
    rename_i a b m y es'
    have e : cond (Nat.beq m n) (forceN i fun i => k i a) (bornE es n (i + 1) k) = true := e
    rw [List.findIdx?_cons]
    cases hb : Nat.beq m n with
    | true =>
      rw [hb] at e
      simp only [cond_true, forceN_eq] at e
      have hmn := Nat.eq_of_beq_eq_true hb
      refine ⟨0, a, y, ?_, rfl, by omega, g1, e⟩
      rw [if_pos (by rw [beq_iff_eq]; omega)]
    | false =>
      rw [hb] at e
      obtain ⟨j, a', e', h1, h2, h3, h4, h5⟩ := ih e g
      have hmn : m ≠ n := by intro h; subst h; simp at hb
      refine ⟨j + 1, a', e', ?_, h2, h3, h4, by rw [show i + (j + 1) = i + 1 + j by omega]; exact h5⟩
      rw [if_neg (by rw [beq_iff_eq]; omega), h1]; rfl
noncomputable def entStoreE (m s x : AV) (H : AH) (k : AV → AH → Bool) : Bool :=
  mapsE m H fun i es c => intE s fun _ n => natE n fun n => bornE es n 0 fun j key => setC (key, x, n) es j fun es => putH H i (some (.map es c)) fun H => k (.v undef) H
theorem entStoreE_sound {m s x : AV} {v u y : Value} (e : entStoreE m s x H k = true) (r : Rel ρ H h) (g1 : R ρ m v) (g2 : R ρ s u) (g3 : R ρ x y) (ok : Ok ρ k kk) : entStoreOp v u y h kk := by
  obtain ⟨i, es, c, b, cap, es', hi, hb, rfl, hh, hm, f⟩ := mapsE_elim e r g1
  obtain ⟨q, n, rfl, f⟩ := intE_elim f
  obtain ⟨n, rfl, f⟩ := natE_elim f
  obtain ⟨j, key, e', h1, h2, h3, h4, f⟩ := bornE_sound f hm
  obtain ⟨_, f⟩ := setC_elim _ _ _ _ f
  obtain ⟨t', f, ht⟩ := putH_elim f
  rw [Nat.zero_add] at ht
  cases g2
  simp only [entStoreOp, mapK, hh, h1, optK]
  exact ok.here (r.put hi hb (.map (hm.modify h2 h4 g3 h3)) ht) (.v _) f
noncomputable def rangeE (P : Program) (t : TypeId) (x : AV) (H : AH) (k : AV → AH → Bool) : Bool :=
  match P.underlying t with
  | some .string => strE x fun s => newO H (.iter s 0) fun i H => k (.ptr i 0) H
  | _ => false
theorem rangeE_sound {t : TypeId} {x : AV} {v : Value} (e : rangeE P t x H k = true) (r : Rel ρ H h) (g : R ρ x v) (ok : Ok ρ k kk) : rangeOp P t v h kk := by
  unfold rangeE at e
  split at e
  · rename_i hu
    obtain ⟨s, rfl, f⟩ := strE_elim e
    cases g
    simp only [rangeOp, hu, strK]
    intro b hb
    obtain ⟨ρ', H', c, w, r', hn, f⟩ := newO_ok r (fun _ => .iter) f hb
    exact ok ρ' _ H' _ _ w r' (.ptr hn) f
  · cases e
noncomputable def nextE (x : AV) (H : AH) (k : AV → AH → Bool) : Bool :=
  match x with
  | .ptr i 0 => (match H.t.get i with
    | some (.iter s p) => (match nth s.data.toList p with
      | some b => chkE (Nat.blt b.toNat 128) (forceN (p + 1) fun p1 => putH H i (some (.iter s p1)) fun H => k (.tup [.v (.bool true), .v (.int .i64 p), .v (.int .i32 b.toNat)]) H)
      | none => k (.tup [.v (.bool false)]) H)
    | _ => false)
  | _ => false
theorem nextE_sound {x : AV} {v : Value} (e : nextE x H k = true) (r : Rel ρ H h) (g : R ρ x v) (ok : Ok ρ k kk) : nextSOp v h kk := by
  unfold nextE at e
  split at e
  · split at e
    · rename_i s p hi
      obtain ⟨b, c, o, h1, h2, h3⟩ := r.get _ _ hi
      cases h3
      cases g with
      | ptr hp =>
      rw [h1] at hp; cases hp
      simp only [nextSOp, Sl.ptr, h2]
      rw [nth_eq] at e
      split at e
      · rename_i by' hb
        obtain ⟨hc, f⟩ := chkE_elim e
        have hc : by'.toNat + 1 ≤ 128 := by simpa [Nat.blt] using hc
        rw [forceN_eq] at f
        obtain ⟨t', f, ht⟩ := putH_elim f
        have hlt : p < s.data.toList.length := by
          rcases Nat.lt_or_ge p s.data.toList.length with h | h
          · exact h
          · rw [List.getElem?_eq_none h] at hb; cases hb
        have hlt' : p < s.size := by simpa using hlt
        have hg : s.data.toList.getD p 0 = by' := by rw [List.getD, hb]; rfl
        refine ⟨fun _ => chk_true (by rw [hg]; simp; omega) ?_, fun h => absurd hlt' h⟩
        rw [hg]
        exact ok.here (r.put hi h1 .iter ht) (.tup (.cons (.v _) (.cons (.v _) (.cons (.v _) .nil)))) f
      · rename_i hb
        have hge : ¬ p < s.size := by
          have := List.getElem?_eq_none_iff.1 hb
          simp at this; omega
        exact ⟨fun h => absurd h hge, fun _ => ok.here r (.tup (.cons (.v _) .nil)) e⟩
    · cases e
  · cases e
end
end Go.Sl
/-
  An evaluator for closed runs. Part 6: environments, operations, regions, code, calls.
-/
namespace Go.Sl
open Go
def sameV (x y : Value) : Bool := match x, y with
  | .int p a, .int q b => decide (p = q) && decide (a = b)
  | .bool a, .bool b => a == b
  | .string a, .string b => bytesEq a.data.toList b.data.toList
  | .pointer none, .pointer none => true
  | .slice none n c, .slice none m d => Nat.beq n m && Nat.beq c d
  | .map none, .map none => true
  | .nilIface, .nilIface => true
  | .nilFunc, .nilFunc => true
  | .tuple a, .tuple b => a.size == 0 && b.size == 0
  | _, _ => false
theorem sameV_eq {x y : Value} (e : sameV x y = true) : x = y := by
  unfold sameV at e
  split at e
  · simp only [Bool.and_eq_true, decide_eq_true_eq] at e; rw [e.1, e.2]
  · rw [eq_of_beq e]
  · rw [bytesEq_iff] at e
    congr 1
    rename_i a b
    cases a with | mk a => cases b with | mk b =>
    congr 1
    exact Array.ext' e
  · rfl
  · simp only [Bool.and_eq_true, Nat.beq_eq] at e; rw [e.1, e.2]
  · rfl
  · rfl
  · rfl
  · simp only [Bool.and_eq_true, beq_iff_eq, Array.size_eq_zero_iff] at e; rw [e.1, e.2]
  · cases e
mutual
def sameA : AV → AV → Bool
  | .v x, .v y => sameV x y
  | .ptr i o, .ptr j p => Nat.beq i j && Nat.beq o p
  | .sl i o n c, .sl j p m d => Nat.beq i j && Nat.beq o p && Nat.beq n m && Nat.beq c d
  | .sg i n, .sg j m => Nat.beq i j && Nat.beq n m
  | .su i o n d _, .su j p m c _ => Nat.beq i j && Nat.beq o p && Nat.beq n m && Nat.beq d c
  | .se i g x d l, .se j h y e m => Nat.beq i j && Nat.beq g h && Nat.beq x y && Nat.beq d e && Nat.beq l m
  | .mp i, .mp j => Nat.beq i j
  | .agg l, .agg m => sameL l m
  | .tup l, .tup m => sameL l m
  | .ifc t x, .ifc u y => Nat.beq t u && sameA x y
  | .fn f xs ys, .fn g us vs => Nat.beq f g && sameL xs us && sameL ys vs
  | _, _ => false
def sameL : List AV → List AV → Bool
  | [], [] => true
  | a :: l, b :: m => sameA a b && sameL l m
  | _, _ => false
end
section
variable {ρ : Names}
mutual
theorem sameA_eq : ∀ {a b : AV} {v u : Value}, sameA a b = true → R ρ a v → R ρ b u → v = u
  | .v x, .v y, _, _, e, .v _, .v _ => sameV_eq (by simpa [sameA] using e)
  | .ptr i o, .ptr j p, _, _, e, .ptr h, .ptr g => by
    simp only [sameA, Bool.and_eq_true, Nat.beq_eq] at e
    obtain ⟨rfl, rfl⟩ := e
    rw [h] at g; cases g; rfl
  | .sl i o n c, .sl j p m d, _, _, e, .sl h, .sl g => by
    simp only [sameA, Bool.and_eq_true, Nat.beq_eq] at e
    obtain ⟨⟨⟨rfl, rfl⟩, rfl⟩, rfl⟩ := e
    rw [h] at g; cases g; rfl
  | .sg i n, .sg j m, _, _, e, .sg h _, .sg g _ => by
    simp only [sameA, Bool.and_eq_true, Nat.beq_eq] at e
    obtain ⟨rfl, rfl⟩ := e
    rw [h] at g; cases g; rfl
  | .su i o n d _, .su j p m c _, _, _, e, .su h _ _, .su g _ _ => by
    simp only [sameA, Bool.and_eq_true, Nat.beq_eq] at e
    obtain ⟨⟨⟨rfl, rfl⟩, rfl⟩, rfl⟩ := e
    rw [h] at g; cases g; rfl
  | .se i g x d l, .se j h y e' m, _, _, e, .se hh _, .se gg _ => by
    simp only [sameA, Bool.and_eq_true, Nat.beq_eq] at e
    obtain ⟨⟨⟨⟨rfl, rfl⟩, rfl⟩, rfl⟩, rfl⟩ := e
    rw [hh] at gg; cases gg; rfl
  | .mp i, .mp j, _, _, e, .mp h, .mp g => by
    simp only [sameA, Nat.beq_eq] at e
    subst e
    rw [h] at g; cases g; rfl
  | .agg l, .agg m, _, _, e, .agg h, .agg g => by
    simp only [sameA] at e
    rw [sameL_eq e h g]
  | .tup l, .tup m, _, _, e, .tup h, .tup g => by
    simp only [sameA] at e
    rw [sameL_eq e h g]
  | .ifc t x, .ifc u y, _, _, e, .ifc h, .ifc g => by
    simp only [sameA, Bool.and_eq_true, Nat.beq_eq] at e
    rw [e.1, sameA_eq e.2 h g]
  | .fn f xs ys, .fn g us vs, _, _, e, .fn h1 h2, .fn g1 g2 => by
    simp only [sameA, Bool.and_eq_true, Nat.beq_eq] at e
    rw [e.1.1, sameL_eq e.1.2 h1 g1, sameL_eq e.2 h2 g2]
theorem sameL_eq : ∀ {a b : List AV} {v u : List Value}, sameL a b = true → RL ρ a v → RL ρ b u → v = u
  | [], [], _, _, _, .nil, .nil => rfl
  | a :: l, b :: m, _, _, e, .cons h1 h2, .cons g1 g2 => by
    simp only [sameL, Bool.and_eq_true] at e
    rw [sameA_eq e.1 h1 g1, sameL_eq e.2 h2 g2]
end
end
/-- The slots of a call: how many, which ones outlast a region (as bits), these; and those that this region has set. -/
structure AE where
  n : Nat
  kp : Nat
  t : T AV
  l : List (Nat × Option AV)
noncomputable def findL (l : List (Nat × Option AV)) (i : Nat) : Option (Option AV) :=
  List.rec (motive := fun _ => Option (Option AV)) none (fun x _ ih => Bool.rec (motive := fun _ => Option (Option AV)) ih (some x.2) (Nat.beq x.1 i)) l
theorem findL_nil (i : Nat) : findL [] i = none := rfl
theorem findL_cons (x : Nat × Option AV) (l : List (Nat × Option AV)) (i : Nat) : findL (x :: l) i = cond (Nat.beq x.1 i) (some x.2) (findL l i) := by
  show Bool.rec (motive := fun _ => Option (Option AV)) (findL l i) (some x.2) (Nat.beq x.1 i) = _
  cases Nat.beq x.1 i <;> rfl
noncomputable def AE.get (A : AE) (i : Nat) : Option AV := match findL A.l i with
  | some x => x
  | none => A.t.get i
structure EnvR (ρ : Names) (A : AE) (e : Env) : Prop where
  len : e.length = A.n
  kept : ∀ i a, A.t.get i = some a → A.kp.testBit i = true
  get : ∀ i a, A.get i = some a → ∃ v, e[i]? = some (some v) ∧ R ρ a v
theorem EnvR.mono {ρ ρ' : Names} (w : Wider ρ ρ') {A : AE} {e : Env} (h : EnvR ρ A e) : EnvR ρ' A e :=
  ⟨h.len, h.kept, fun i a hi => let ⟨v, h1, h2⟩ := h.get i a hi; ⟨v, h1, h2.mono w⟩⟩
theorem get_push (A : AE) (d : Nat) (x : Option AV) (i : Nat) : (⟨A.n, A.kp, A.t, (d, x) :: A.l⟩ : AE).get i = if i = d then x else A.get i := by
  unfold AE.get
  dsimp only
  rw [findL_cons]
  dsimp only
  cases hb : Nat.beq d i with
  | true => have := Nat.eq_of_beq_eq_true hb; subst this; simp
  | false =>
    have : i ≠ d := by intro h; subst h; simp at hb
    rw [if_neg this]; rfl
noncomputable def putAE (A : AE) (d : Option Tmp) (a : AV) (k : AE → Bool) : Bool := match d with
  | none => k A
  | some d => match A with | ⟨n, kp, t, l⟩ => chkE (Nat.blt d n) (k ⟨n, kp, t, (d, some a) :: l⟩)
theorem putAE_elim {ρ : Names} {A : AE} {e : Env} {d : Option Tmp} {a : AV} {v : Value} {k : AE → Bool} (h : putAE A d a k = true) (hE : EnvR ρ A e) (g : R ρ a v) : ∃ A', k A' = true ∧ EnvR ρ A' (putE e d v) := by
  cases d with
  | none => exact ⟨A, h, hE⟩
  | some d =>
    have h : chkE (Nat.blt d A.n) (k ⟨A.n, A.kp, A.t, (d, some a) :: A.l⟩) = true := by cases A; exact h
    obtain ⟨hd, hk⟩ := chkE_elim h
    have hd : d + 1 ≤ A.n := by simpa [Nat.blt] using hd
    refine ⟨_, hk, by simp [putE, hE.len], hE.kept, fun i b hb => ?_⟩
    rw [get_push] at hb
    simp only [putE]
    split at hb
    · rename_i hi; cases hb; subst hi
      exact ⟨v, by rw [List.getElem?_set, if_pos rfl, if_pos (by rw [hE.len]; exact hd)], g⟩
    · rename_i hi
      obtain ⟨u, h1, h2⟩ := hE.get i b hb
      exact ⟨u, by rw [List.getElem?_set, if_neg (Ne.symm hi)]; exact h1, h2⟩
noncomputable def clearAE (A : AE) (d : Option Tmp) (k : AE → Bool) : Bool := match d with
  | none => k A
  | some d => match A with | ⟨n, kp, t, l⟩ => k ⟨n, kp, t, (d, none) :: l⟩
theorem clearAE_elim {ρ : Names} {A : AE} {e : Env} {d : Option Tmp} {k : AE → Bool} (h : clearAE A d k = true) (hE : EnvR ρ A e) : ∃ A', k A' = true ∧ EnvR ρ A' (clearE' e d) := by
  cases d with
  | none => exact ⟨A, h, hE⟩
  | some d =>
    have h : k ⟨A.n, A.kp, A.t, (d, none) :: A.l⟩ = true := by cases A; exact h
    refine ⟨_, h, by simp [clearE', hE.len], hE.kept, fun i b hb => ?_⟩
    rw [get_push] at hb
    simp only [clearE']
    split at hb
    · cases hb
    · rename_i hi
      obtain ⟨u, h1, h2⟩ := hE.get i b hb
      exact ⟨u, by rw [List.getElem?_set, if_neg (Ne.symm hi)]; exact h1, h2⟩
/-- At a region's end: what outlasts it. -/
noncomputable def flushL (kp : Nat) (l : List (Nat × Option AV)) : T AV → (T AV → Bool) → Bool :=
  List.rec (motive := fun _ => T AV → (T AV → Bool) → Bool) (fun t k => k t) (fun x _ ih t k => ih t fun t => cond (Nat.testBit kp x.1) (T.set 16 t x.1 x.2 k) (k t)) l
theorem flushL_elim (kp : Nat) : ∀ (l : List (Nat × Option AV)) (t : T AV) (k : T AV → Bool), flushL kp l t k = true → (∀ i a, t.get i = some a → kp.testBit i = true) →
    ∃ t', k t' = true ∧ (∀ i a, t'.get i = some a → kp.testBit i = true) ∧ ∀ i a, t'.get i = some a → (match findL l i with | some x => x | none => t.get i) = some a := by
  intro l
  induction l with
  | nil => intro t k h hk; exact ⟨t, h, hk, fun i a hi => hi⟩
  | cons x l ih =>
    intro t k h hk
    have h : (flushL kp l t fun t => cond (Nat.testBit kp x.1) (T.set 16 t x.1 x.2 k) (k t)) = true := h
    obtain ⟨t1, h, h1, h2⟩ := ih _ _ h hk
    cases hb : Nat.testBit kp x.1 with
    | true =>
      rw [hb] at h
      simp only [cond_true] at h
      obtain ⟨t2, h, ht⟩ := T.set_elim _ _ _ _ _ h
      have key : ∀ i a, t2.get i = some a → kp.testBit i = true ∧ (match findL (x :: l) i with | some x => x | none => t.get i) = some a := by
        intro i a hi
        rw [ht] at hi
        rw [findL_cons]
        split at hi
        · rename_i hix
          subst hix
          exact ⟨hb, by simpa using hi⟩
        · rename_i hix
          have : Nat.beq x.1 i = false := by
            cases hq : Nat.beq x.1 i with
            | false => rfl
            | true => exact absurd (Nat.eq_of_beq_eq_true hq).symm hix
          rw [this]
          exact ⟨h1 i a hi, h2 i a hi⟩
      exact ⟨t2, h, fun i a hi => (key i a hi).1, fun i a hi => (key i a hi).2⟩
    | false =>
      rw [hb] at h
      refine ⟨t1, h, h1, fun i a hi => ?_⟩
      rw [findL_cons]
      have : Nat.beq x.1 i = false := by
        cases hq : Nat.beq x.1 i with
        | false => rfl
        | true =>
          have := Nat.eq_of_beq_eq_true hq
          subst this
          have := h1 _ a hi
          rw [hb] at this; cases this
      rw [this]
      exact h2 i a hi
noncomputable def flushE (A : AE) (k : AE → Bool) : Bool := match A with | ⟨n, kp, t, l⟩ => flushL kp l t fun t => k ⟨n, kp, t, []⟩
theorem flushE_elim {ρ : Names} {A : AE} {e : Env} {k : AE → Bool} (h : flushE A k = true) (hE : EnvR ρ A e) : ∃ A', k A' = true ∧ EnvR ρ A' e := by
  have h : (flushL A.kp A.l A.t fun t => k ⟨A.n, A.kp, t, []⟩) = true := by cases A; exact h
  obtain ⟨t, h, h1, h2⟩ := flushL_elim _ _ _ _ h hE.kept
  exact ⟨_, h, hE.len, h1, fun i a hi => hE.get i a (h2 i a hi)⟩
noncomputable def getE (A : AE) (x : Operand) (k : AV → Bool) : Bool := match x with
  | .tmp t => optE (A.get t) k
  | .const v => k (ofV v)
  | .global _ => false
  | .func f => k (.fn f [] [])
section
variable {ρ : Names} {A : AE} {e : Env} {H : AH} {h : Hp} {P : Program}
theorem getE_sound (hE : EnvR ρ A e) {x : Operand} {k : AV → Bool} {K : Value → Prop} (hk : getE A x k = true) (ok : ∀ a v, R ρ a v → k a = true → K v) : getK e x K := by
  cases x with
  | tmp t =>
    obtain ⟨a, ha, hk⟩ := optE_elim hk
    obtain ⟨v, h1, h2⟩ := hE.get t a ha
    simp only [getK, h1]; exact ok _ _ h2 hk
  | const v => exact ok _ _ (R.ofV v) hk
  | global g => cases hk
  | func f => exact ok _ _ (.fn .nil .nil) hk
noncomputable def argsE (A : AE) : List Operand → (List AV → Bool) → Bool
  | [], k => k []
  | x :: l, k => getE A x fun a => argsE A l fun as => k (a :: as)
theorem argsE_sound (hE : EnvR ρ A e) : ∀ {l : List Operand} {k : List AV → Bool} {K : List Value → Prop}, argsE A l k = true → (∀ a v, RL ρ a v → k a = true → K v) → argsK e l K := by
  intro l
  induction l with
  | nil => intro k K hk ok; exact ok _ _ .nil hk
  | cons x l ih => intro k K hk ok; exact getE_sound hE hk fun a v g hk => ih hk fun as vs gs hk => ok _ _ (.cons g gs) hk
noncomputable def partsE (A : AE) : List (Nat × Operand) → (List (Nat × AV) → Bool) → Bool
  | [], k => k []
  | (i, x) :: l, k => getE A x fun a => partsE A l fun as => k ((i, a) :: as)
theorem partsE_sound (hE : EnvR ρ A e) : ∀ {l : List (Nat × Operand)} {k : List (Nat × AV) → Bool} {K : List (Nat × Value) → Prop}, partsE A l k = true → (∀ a v, RP ρ a v → k a = true → K v) → partsK e l K := by
  intro l
  induction l with
  | nil => intro k K hk ok; exact ok _ _ .nil hk
  | cons x l ih => obtain ⟨i, x⟩ := x; intro k K hk ok; exact getE_sound hE hk fun a v g hk => ih hk fun as vs gs hk => ok _ _ (.cons g gs) hk
noncomputable def optGE (A : AE) (x : Option Operand) (k : Option AV → Bool) : Bool := match x with
  | none => k none
  | some x => getE A x fun a => k (some a)
theorem optGE_sound (hE : EnvR ρ A e) {x : Option Operand} {k : Option AV → Bool} {K : Option Value → Prop} (hk : optGE A x k = true) (ok : ∀ a v, ROp ρ a v → k a = true → K v) : optGK e x K := by
  cases x with
  | none => exact ok _ _ .none hk
  | some x => exact getE_sound hE hk fun a v g hk => ok _ _ (.some g) hk
noncomputable def builtinE' (P : Program) (b : Builtin) (ts : List TypeId) (args : List AV) (H : AH) (k : AV → AH → Bool) : Bool :=
  match b with
  | .len => (match ts, args with | t :: _, [x] => lenE P t x H k | _, _ => false)
  | .max => (match args with | [x, y] => mm2E true x y H k | _ => false)
  | .min => (match args with | [x, y] => mm2E false x y H k | _ => false)
  | .append => (match ts, args with | t :: xt :: _, [s, x] => appOpE P t xt s x H k | _, _ => false)
  | .copy => (match ts, args with | t :: _, [d, x] => copyOpE P t d x H k | _, _ => false)
  | .clear => (match ts, args with | t :: _, [x] => clearE P t x H k | _, _ => false)
  | _ => false
theorem RL.one {l : List Value} {a : AV} (g : RL ρ [a] l) : ∃ v, l = [v] ∧ R ρ a v := by
  cases g with | cons g g2 => cases g2; exact ⟨_, rfl, g⟩
theorem RL.two {l : List Value} {a b : AV} (g : RL ρ [a, b] l) : ∃ v u, l = [v, u] ∧ R ρ a v ∧ R ρ b u := by
  cases g with | cons g g2 => cases g2 with | cons g2 g3 => cases g3; exact ⟨_, _, rfl, g, g2⟩
theorem builtinQ_ok {b : Builtin} {ts : List TypeId} {as : List AV} {vs : List Value} {k : AV → AH → Bool} {kk : Value → Prop} (he : builtinE' P b ts as H k = true) (hb : b = .len ∨ b = .max ∨ b = .min) (g : RL ρ as vs) (r : Rel ρ H h) (okh : Here ρ H h k fun v _ => kk v) :
    builtinQ P b ts vs h kk := by
  rcases hb with rfl | rfl | rfl
  · simp only [builtinE'] at he
    split at he
    · obtain ⟨v, rfl, g1⟩ := g.one
      exact lenE_sound he r g1 okh
    · cases he
  · simp only [builtinE'] at he
    split at he
    · obtain ⟨v, u, rfl, g1, g2⟩ := g.two
      exact mm2E_sound he r g1 g2 okh
    · cases he
  · simp only [builtinE'] at he
    split at he
    · obtain ⟨v, u, rfl, g1, g2⟩ := g.two
      exact mm2E_sound he r g1 g2 okh
    · cases he
theorem builtinE_ok {b : Builtin} {ts : List TypeId} {as : List AV} {vs : List Value} {k : AV → AH → Bool} {kk : Value → Hp → Prop} (he : builtinE' P b ts as H k = true) (hb : ¬ (b = .len ∨ b = .max ∨ b = .min)) (g : RL ρ as vs) (r : Rel ρ H h) (ok : Ok ρ k kk) :
    builtinE P b ts vs h kk := by
  unfold builtinE' at he
  split at he
  · simp at hb
  · simp at hb
  · simp at hb
  · split at he
    · obtain ⟨v, u, rfl, g1, g2⟩ := g.two
      exact appOpE_sound he r g1 g2 ok
    · cases he
  · split at he
    · obtain ⟨v, u, rfl, g1, g2⟩ := g.two
      exact copyOpE_sound he r g1 g2 ok
    · cases he
  · split at he
    · obtain ⟨v, rfl, g1⟩ := g.one
      exact clearE_sound he r g1 ok
    · cases he
  · cases he
structure OAct where
  run : AE → AH → (AV → AH → Bool) → Bool
/-- One operation, turned. -/
noncomputable def opC (P : Program) (op : Op) : OAct :=
  match op with
  | .move x => ⟨fun A H k => getE A x fun a => k a H⟩
  | .assign x => ⟨fun A H k => getE A x fun a => k a H⟩
  | .pick c x y => ⟨fun A H k => getE A c fun a => boolE a fun b => cond b (getE A x fun a => k a H) (getE A y fun a => k a H)⟩
  | .alloc t => ⟨fun _ H k => allocE P t H k⟩
  | .box _ x => ⟨fun A H k => getE A x fun a => boxE a H k⟩
  | .build t ps => ⟨fun A H k => partsE A ps.toList fun ps => buildE P t ps H k⟩
  | .buildSlice t n ps => ⟨fun A H k => partsE A ps.toList fun ps => buildSliceE P t n ps H k⟩
  | .load t x => ⟨fun A H k => getE A x fun a => loadE P t a H k⟩
  | .store t x y => ⟨fun A H k => getE A x fun a => getE A y fun b => storeE P t a b H k⟩
  | .nilCheck x => ⟨fun A H k => getE A x fun a => nilChkE a H k⟩
  | .binOp op t x y _ => ⟨fun A H k => getE A x fun a => getE A y fun b => binE P op t a b H k⟩
  | .unOp op _ x => ⟨fun A H k => getE A x fun a => unE op a H k⟩
  | .convert s d x => ⟨fun A H k => getE A x fun a => convE P s d a H k⟩
  | .sliceToArrayPointer t x => ⟨fun A H k => getE A x fun a => s2apE P t a H k⟩
  | .makeInterface t x => ⟨fun A H k => getE A x fun a => mkIfaceE P t a H k⟩
  | .makeFunc (.func f) xs ys => ⟨fun A H k => argsE A xs.toList fun xs => argsE A ys.toList fun ys => k (.fn f xs ys) H⟩
  | .makeMap _ none => ⟨fun _ H k => mkMapE H k⟩
  | .makeSlice t x y => ⟨fun A H k => getE A x fun a => getE A y fun b => mkSliceE P t a b H k⟩
  | .slice t x lo hi mx => ⟨fun A H k => getE A x fun a => optGE A lo fun lo => optGE A hi fun hi => optGE A mx fun mx => sliceE P t a lo hi mx H k⟩
  | .fieldAddr t x i => ⟨fun A H k => getE A x fun a => fieldAddrE P t a i H k⟩
  | .field t x i => ⟨fun A H k => getE A x fun a => fieldE P t a i H k⟩
  | .indexAddr t x i => ⟨fun A H k => getE A x fun a => getE A i fun b => indexAddrE P t a b H k⟩
  | .index t x i => ⟨fun A H k => getE A x fun a => getE A i fun b => indexE P t a b H k⟩
  | .lookup t x i ok => ⟨fun A H k => getE A x fun a => getE A i fun b => lookupE P t a b ok H k⟩
  | .mapUpdate t m i x => ⟨fun A H k => getE A m fun m => getE A i fun i => getE A x fun x => mapUpdE P t m i x H k⟩
  | .insert t m i x => ⟨fun A H k => getE A m fun m => getE A i fun i => getE A x fun x => mapUpdE P t m i x H k⟩
  | .mapEntry t m i => ⟨fun A H k => getE A m fun m => getE A i fun i => mapEntE P t m i H k⟩
  | .entryStore _ m i x => ⟨fun A H k => getE A m fun m => getE A i fun i => getE A x fun x => entStoreE m i x H k⟩
  | .range t x => ⟨fun A H k => getE A x fun a => rangeE P t a H k⟩
  | .next x true => ⟨fun A H k => getE A x fun a => nextE a H k⟩
  | .extract x i => ⟨fun A H k => getE A x fun a => extractE a i H k⟩
  | .call { callee := .builtin b, args, argTypes } => ⟨fun A H k => argsE A args.toList fun as => builtinE' P b argTypes.toList as H k⟩
  | _ => ⟨fun _ _ _ => false⟩
/-- One operation, calls of functions aside. -/
noncomputable def opE (P : Program) (o : Oper) (A : AE) (H : AH) (k : AV → AH → Bool) : Bool := (opC P o.op).run A H k
theorem opQ_sound {o : Oper} {k : AV → AH → Bool} {kk : Value → Prop} (hq : quietOp P o = true) (he : opE P o A H k = true) (hE : EnvR ρ A e) (r : Rel ρ H h) (okh : Here ρ H h k fun v _ => kk v) : qK P o e h kk := by
  unfold opE opC at he
  split at he <;> rename_i hop <;> dsimp only at he
  · simp only [qK, hop]; exact getE_sound hE he fun a v g he => okh.here r g he
  · simp [quietOp, hop] at hq
  · simp only [qK, hop]
    refine getE_sound hE he fun a v g he => ?_
    obtain ⟨b, rfl, he⟩ := boolE_elim he
    cases g
    simp only [boolK]
    cases b
    · exact getE_sound hE he fun a v g he => okh.here r g he
    · exact getE_sound hE he fun a v g he => okh.here r g he
  · simp [quietOp, hop] at hq
  · simp [quietOp, hop] at hq
  · simp only [qK, hop]; exact partsE_sound hE he fun a v g he => buildE_sound he r g okh
  · simp [quietOp, hop] at hq
  · simp only [qK, hop]; exact getE_sound hE he fun a v g he => loadE_sound he r g okh
  · simp [quietOp, hop] at hq
  · simp only [qK, hop]; exact getE_sound hE he fun a v g he => nilChkE_sound he r g okh
  · simp only [qK, hop]; exact getE_sound hE he fun a v g he => getE_sound hE he fun b u g2 he => binE_sound he r g g2 okh
  · simp only [qK, hop]; exact getE_sound hE he fun a v g he => unE_sound he r g okh
  · rename_i s d x
    have hc : convMakes P s d = false := by
      cases hc : convMakes P s d with
      | false => rfl
      | true => simp [quietOp, hop, hc] at hq
    simp only [qK, hop]
    refine getE_sound hE he fun a v g he => ?_
    exact convQE_sound hc he r g okh
  · simp only [qK, hop]; exact getE_sound hE he fun a v g he => s2apE_sound he r g okh
  · simp only [qK, hop]; exact getE_sound hE he fun a v g he => mkIfaceE_sound he r g okh
  · simp only [qK, hop]; exact argsE_sound hE he fun a v g he => argsE_sound hE he fun b u g2 he => okh.here r (.fn g g2) he
  · simp [quietOp, hop] at hq
  · simp [quietOp, hop] at hq
  · simp only [qK, hop]
    exact getE_sound hE he fun a v g he => optGE_sound hE he fun b u g2 he => optGE_sound hE he fun c x g3 he => optGE_sound hE he fun d y g4 he => sliceE_sound he r g g2 g3 g4 okh
  · simp only [qK, hop]; exact getE_sound hE he fun a v g he => fieldAddrE_sound he r g okh
  · simp only [qK, hop]; exact getE_sound hE he fun a v g he => fieldE_sound he r g okh
  · simp only [qK, hop]; exact getE_sound hE he fun a v g he => getE_sound hE he fun b u g2 he => indexAddrE_sound he r g g2 okh
  · simp only [qK, hop]; exact getE_sound hE he fun a v g he => getE_sound hE he fun b u g2 he => indexE_sound he r g g2 okh
  · simp only [qK, hop]; exact getE_sound hE he fun a v g he => getE_sound hE he fun b u g2 he => lookupE_sound he r g g2 okh
  · simp [quietOp, hop] at hq
  · simp [quietOp, hop] at hq
  · simp [quietOp, hop] at hq
  · simp [quietOp, hop] at hq
  · simp [quietOp, hop] at hq
  · simp [quietOp, hop] at hq
  · simp only [qK, hop]; exact getE_sound hE he fun a v g he => extractE_sound he r g okh
  · rename_i b args ts
    have hb : b = .len ∨ b = .max ∨ b = .min := by
      unfold quietOp at hq; rw [hop] at hq
      cases b <;> first | (exact .inl rfl) | (exact .inr (.inl rfl)) | (exact .inr (.inr rfl)) | cases hq
    simp only [qK, hop]
    exact argsE_sound hE he fun as vs g he => builtinQ_ok he hb g r okh
  · cases he
theorem opE_sound {o : Oper} {k : AV → AH → Bool} {kk : Value → Hp → Prop} (he : opE P o A H k = true) (hE : EnvR ρ A e) (r : Rel ρ H h) (ok : Ok ρ k kk) : opK P o e h kk := by
  have okh := ok.now r
  unfold opE opC at he
  split at he <;> rename_i hop <;> dsimp only at he
  · simp only [opK, quietOp, hop, qK]; exact getE_sound hE he fun a v g he => ok.here r g he
  · simp only [opK, quietOp, hop, eK]; exact getE_sound hE he fun a v g he => ok.here r g he
  · simp only [opK, quietOp, hop, qK]
    refine getE_sound hE he fun a v g he => ?_
    obtain ⟨b, rfl, he⟩ := boolE_elim he
    cases g
    simp only [boolK]
    cases b
    · exact getE_sound hE he fun a v g he => ok.here r g he
    · exact getE_sound hE he fun a v g he => ok.here r g he
  · simp only [opK, quietOp, hop, eK]; exact allocE_sound he r ok
  · simp only [opK, quietOp, hop, eK]; exact getE_sound hE he fun a v g he => boxE_sound he r g ok
  · simp only [opK, quietOp, hop, qK]; exact partsE_sound hE he fun a v g he => buildE_sound he r g okh
  · simp only [opK, quietOp, hop, eK]; exact partsE_sound hE he fun a v g he => buildSliceE_sound he r g ok
  · simp only [opK, quietOp, hop, qK]; exact getE_sound hE he fun a v g he => loadE_sound he r g okh
  · simp only [opK, quietOp, hop, eK]; exact getE_sound hE he fun a v g he => getE_sound hE he fun b u g2 he => storeE_sound he r g g2 ok
  · simp only [opK, quietOp, hop, qK]; exact getE_sound hE he fun a v g he => nilChkE_sound he r g okh
  · simp only [opK, quietOp, hop, qK]; exact getE_sound hE he fun a v g he => getE_sound hE he fun b u g2 he => binE_sound he r g g2 okh
  · simp only [opK, quietOp, hop, qK]; exact getE_sound hE he fun a v g he => unE_sound he r g okh
  · rename_i s d x
    cases hc : convMakes P s d with
    | false =>
      simp only [opK, quietOp, hop, hc, Bool.not_false, qK]
      refine getE_sound hE he fun a v g he => ?_
      rcases convE_sound he r g okh ok with ⟨_, h1⟩ | ⟨h1, _⟩
      · exact h1
      · rw [hc] at h1; cases h1
    | true =>
      simp only [opK, quietOp, hop, hc, Bool.not_true, eK]
      refine getE_sound hE he fun a v g he => ?_
      rcases convE_sound he r g okh ok with ⟨h1, _⟩ | ⟨_, h1⟩
      · rw [hc] at h1; cases h1
      · exact h1
  · simp only [opK, quietOp, hop, qK]; exact getE_sound hE he fun a v g he => s2apE_sound he r g okh
  · simp only [opK, quietOp, hop, qK]; exact getE_sound hE he fun a v g he => mkIfaceE_sound he r g okh
  · simp only [opK, quietOp, hop, qK]; exact argsE_sound hE he fun a v g he => argsE_sound hE he fun b u g2 he => ok.here r (.fn g g2) he
  · simp only [opK, quietOp, hop, eK]; exact mkMapE_sound he r ok
  · simp only [opK, quietOp, hop, eK]; exact getE_sound hE he fun a v g he => getE_sound hE he fun b u g2 he => mkSliceE_sound he r g g2 ok
  · simp only [opK, quietOp, hop, qK]
    exact getE_sound hE he fun a v g he => optGE_sound hE he fun b u g2 he => optGE_sound hE he fun c x g3 he => optGE_sound hE he fun d y g4 he => sliceE_sound he r g g2 g3 g4 okh
  · simp only [opK, quietOp, hop, qK]; exact getE_sound hE he fun a v g he => fieldAddrE_sound he r g okh
  · simp only [opK, quietOp, hop, qK]; exact getE_sound hE he fun a v g he => fieldE_sound he r g okh
  · simp only [opK, quietOp, hop, qK]; exact getE_sound hE he fun a v g he => getE_sound hE he fun b u g2 he => indexAddrE_sound he r g g2 okh
  · simp only [opK, quietOp, hop, qK]; exact getE_sound hE he fun a v g he => getE_sound hE he fun b u g2 he => indexE_sound he r g g2 okh
  · simp only [opK, quietOp, hop, qK]; exact getE_sound hE he fun a v g he => getE_sound hE he fun b u g2 he => lookupE_sound he r g g2 okh
  · simp only [opK, quietOp, hop, eK]
    exact getE_sound hE he fun a v g he => getE_sound hE he fun b u g2 he => getE_sound hE he fun c x g3 he => mapUpdE_sound he r g g2 g3 ok
  · simp only [opK, quietOp, hop, eK]
    exact getE_sound hE he fun a v g he => getE_sound hE he fun b u g2 he => getE_sound hE he fun c x g3 he => mapUpdE_sound he r g g2 g3 ok
  · simp only [opK, quietOp, hop, eK]; exact getE_sound hE he fun a v g he => getE_sound hE he fun b u g2 he => mapEntE_sound he r g g2 ok
  · simp only [opK, quietOp, hop, eK]
    exact getE_sound hE he fun a v g he => getE_sound hE he fun b u g2 he => getE_sound hE he fun c x g3 he => entStoreE_sound he r g g2 g3 ok
  · simp only [opK, quietOp, hop, eK]; exact getE_sound hE he fun a v g he => rangeE_sound he r g ok
  · simp only [opK, quietOp, hop, eK]; exact getE_sound hE he fun a v g he => nextE_sound he r g ok
  · simp only [opK, quietOp, hop, qK]; exact getE_sound hE he fun a v g he => extractE_sound he r g okh
  · rename_i b args ts
    by_cases hb : b = .len ∨ b = .max ∨ b = .min
    · have hq : quietOp P o = true := by rcases hb with h | h | h <;> subst h <;> simp [quietOp, hop]
      simp only [opK, hq, qK, hop]
      exact argsE_sound hE he fun as vs g he => builtinQ_ok he hb g r okh
    · have hq : quietOp P o = false := by
        unfold quietOp; rw [hop]
        cases b <;> first | rfl | (exfalso; exact hb (by simp))
      simp only [opK, hq, eK, hop]
      exact argsE_sound hE he fun as vs g he => builtinE_ok he hb g r ok
  · cases he
end
end Go.Sl
/-
  An evaluator for closed runs. Part 7: steps, regions, code, calls.
-/
namespace Go.Sl
open Go
section
variable {P : Program} {ρ : Names} {A : AE} {e : Env} {H : AH} {h : Hp}
-- a region in the order of the text, once more
def opsW (P : Program) (all : Array Oper) : List Oper → Env → Hp → (Env → Hp → Prop) → Prop
  | [], e, h, k => k e h
  | o :: os, e, h, k => wantK all o e fun b => bcase b (stepV P o e h fun v h => opsW P all os (putE e o.dst v) h k) (opsW P all os (putE e o.dst undef) h k)
theorem opsW_sound {all : Array Oper} {Q : Exit → Act → World → Prop} : ∀ (os : List Oper) (e : Env) (h : Hp) (k : Env → Hp → Prop) (a : Act) (w : World),
    opsW P all os e h k → EnvOk e a.tmps → Rep h w → Then h a w k (Q .normal) → wpList P all Q os a w := by
  intro os
  induction os with
  | nil => intro e h k a w hs hE hr hK; exact hK e h a w hs hE rfl hr (.refl h w)
  | cons o os ih =>
    intro e h k a w hs hE hr hK
    unfold opsW at hs
    have hs := wantK_elim hE hs
    unfold wpList
    cases hw : Region.wanted o (yielded all a.tmps) with
    | true =>
      rw [hw] at hs
      rw [if_pos rfl]
      refine .inl (stepV_sound hs hE hr fun v h' w' hk hr' hx => ?_)
      exact ih _ h' k _ w' hk (hE.put o.dst v) hr' fun e2 h2 a2 w2 hk2 hE2 hd2 hr2 hx2 => hK e2 h2 a2 w2 hk2 hE2 (hd2.trans (put_defers ..)) hr2 (hx.trans hx2)
    | false =>
      rw [hw] at hs
      rw [if_neg (by simp)]
      exact ih _ h k _ w hs (hE.put o.dst undef) hr fun e2 h2 a2 w2 hk2 hE2 hd2 hr2 hx2 => hK e2 h2 a2 w2 hk2 hE2 (hd2.trans (put_defers ..)) hr2 hx2
theorem CodeA.regionW {id : Nat} {ops : Array Oper} {k : Exit → Env → Hp → Prop} (hs : opsW P ops ops.toList e h (k .normal)) : CodeA P (.region id ops false) e h k := by
  intro a w hE hr Q hQ
  exact wp_region_list (opsW_sound _ e h _ a w hs hE hr fun e' h' a' w' hk hE' hd hr' hx => hQ _ e' h' a' w' hk hE' hd hr' hx)
abbrev CallT := FuncId → List AV → AH → (AV → AH → Bool) → Bool
def CS (P : Program) (C : CallT) : Prop := ∀ i args args' H h ρ k kk, C i args H k = true → Rel ρ H h → RL ρ args args' → Ok ρ k kk → EnterA P i args' h kk
variable {C : CallT}
noncomputable def callE' (P : Program) (C : CallT) (c : Call) (A : AE) (H : AH) (k : AV → AH → Bool) : Bool :=
  match c.callee with
  | .value f => getE A f fun fv => (match fv with
    | .fn i xs ys => argsE A c.args.toList fun vs => C i (xs ++ vs ++ ys) H k
    | _ => false)
  | .invoke r name => getE A r fun rv => (match rv with
    | .ifc t v => argsE A c.args.toList fun vs => optE (methOf P t name) fun i => C i (v :: vs) H k
    | _ => false)
  | _ => false
theorem callE'_sound (cs : CS P C) {c : Call} {k : AV → AH → Bool} {kk : Value → Hp → Prop} (he : callE' P C c A H k = true) (hE : EnvR ρ A e) (r : Rel ρ H h) (ok : Ok ρ k kk) : callK P c e h kk := by
  unfold callE' at he
  split at he
  · rename_i f hc
    simp only [callK, hc]
    refine getE_sound hE he fun a v g he => ?_
    split at he
    · cases g with
      | fn g1 g2 =>
      dsimp only
      refine argsE_sound hE he fun as vs g he => ?_
      exact cs _ _ _ _ _ _ _ _ he r ((g1.append g).append g2) ok
    · cases he
  · rename_i rc name hc
    simp only [callK, hc]
    refine getE_sound hE he fun a v g he => ?_
    split at he
    · cases g with
      | ifc g1 =>
      dsimp only
      refine argsE_sound hE he fun as vs g he => ?_
      obtain ⟨i, hm, he⟩ := optE_elim he
      rw [hm]
      exact cs _ _ _ _ _ _ _ _ he r (.cons g1 g) ok
    · cases he
  · cases he
structure SAct where
  run : CallT → AE → AH → (AV → AH → Bool) → Bool
noncomputable def callC (P : Program) (op : Op) (c : Call) : SAct := match c.callee with
  | .builtin _ => ⟨fun _ A H k => (opC P op).run A H k⟩
  | _ => ⟨fun C A H k => callE' P C c A H k⟩
noncomputable def stepC (P : Program) (op : Op) : SAct := match op with
  | .call c => callC P op c
  | _ => ⟨fun _ A H k => (opC P op).run A H k⟩
noncomputable def stepE (P : Program) (C : CallT) (o : Oper) (A : AE) (H : AH) (k : AV → AH → Bool) : Bool := (stepC P o.op).run C A H k
theorem stepE_sound (cs : CS P C) {o : Oper} {k : AV → AH → Bool} {kk : Value → Hp → Prop} (he : stepE P C o A H k = true) (hE : EnvR ρ A e) (r : Rel ρ H h) (ok : Ok ρ k kk) : stepV P o e h kk := by
  unfold stepE stepC at he
  split at he
  · rename_i c hop
    unfold callC at he
    split at he
    · rename_i b hc
      have he : opE P o A H k = true := he
      simp only [stepV, hop, hc]
      exact opE_sound he hE r ok
    · rename_i hc
      have he : callE' P C c A H k = true := he
      have : stepV P o e h kk = callK P c e h kk := by
        unfold stepV; rw [hop]
        dsimp only
        split
        · rename_i b hb; exact absurd hb (hc b)
        · rfl
      rw [this]
      exact callE'_sound cs he hE r ok
  · rename_i hop
    have he : opE P o A H k = true := he
    have : stepV P o e h kk = opK P o e h kk := by
      unfold stepV
      split
      · rename_i c hc; exact absurd hc (hop c)
      · rfl
    rw [this]
    exact opE_sound he hE r ok
noncomputable def wantE (ops : Array Oper) (o : Oper) (A : AE) (k : Bool → Bool) : Bool := match o.guard with
  | none => k true
  | some (j, want) => optE (dstOf ops j) fun d => optE (A.get d) fun a => match a with
    | .v (.bool b) => cond b (cond want (k true) (k false)) (cond want (k false) (k true))
    | .v (.tuple _) => k false
    | _ => false
theorem wantE_sound {ops : Array Oper} {o : Oper} {k : Bool → Bool} {K : Bool → Prop} (he : wantE ops o A k = true) (hE : EnvR ρ A e) (ok : ∀ b, k b = true → K b) : wantK ops o e K := by
  unfold wantE at he
  split at he
  · rename_i hg; simp only [wantK, hg]; exact ok _ he
  · rename_i j want hg
    obtain ⟨d, hd, he⟩ := optE_elim he
    obtain ⟨a, ha, he⟩ := optE_elim he
    obtain ⟨v, h1, h2⟩ := hE.get _ _ ha
    split at he
    · rename_i b
      cases h2
      simp only [wantK, hg, hd, h1]
      cases b <;> cases want <;> exact ok _ he
    · cases h2
      simp only [wantK, hg, hd, h1]
      exact ok _ he
    · cases he
def OkC (ρ : Names) (k : AE → AH → Bool) (kk : Env → Hp → Prop) : Prop := ∀ ρ' A H e h, Wider ρ ρ' → EnvR ρ' A e → Rel ρ' H h → k A H = true → kk e h
theorem OkC.mono {ρ' : Names} (w : Wider ρ ρ') {k : AE → AH → Bool} {kk : Env → Hp → Prop} (ok : OkC ρ k kk) : OkC ρ' k kk := fun ρ2 A H e h w2 => ok ρ2 A H e h (w.trans w2)
structure RAct where
  run : CallT → AE → AH → (AE → AH → Bool) → Bool
noncomputable def oneC (P : Program) (all : Array Oper) (o : Oper) (rest : RAct) : RAct := match o.guard with
  | none => ⟨fun C A H k => (stepC P o.op).run C A H fun a H => putAE A o.dst a fun A => rest.run C A H k⟩
  | some _ => ⟨fun C A H k => wantE all o A fun b => cond b (stepE P C o A H fun a H => putAE A o.dst a fun A => rest.run C A H k) (putAE A o.dst (.v undef) fun A => rest.run C A H k)⟩
noncomputable def opsC (P : Program) (all : Array Oper) (os : List Oper) : RAct :=
  List.rec (motive := fun _ => RAct) ⟨fun _ A H k => k A H⟩ (fun o _ ih => oneC P all o ih) os
noncomputable def opsE (P : Program) (C : CallT) (all : Array Oper) (os : List Oper) (A : AE) (H : AH) (k : AE → AH → Bool) : Bool := (opsC P all os).run C A H k
theorem opsE_cons (P : Program) (C : CallT) (all : Array Oper) (o : Oper) (os : List Oper) (A : AE) (H : AH) (k : AE → AH → Bool) : opsE P C all (o :: os) A H k =
    wantE all o A fun b => cond b (stepE P C o A H fun a H => putAE A o.dst a fun A => opsE P C all os A H k) (putAE A o.dst (.v undef) fun A => opsE P C all os A H k) := by
  show (oneC P all o (opsC P all os)).run C A H k = _
  unfold oneC
  split
  · rename_i hg
    unfold wantE; rw [hg]; rfl
  · rfl
theorem opsE_sound (cs : CS P C) {all : Array Oper} : ∀ {os : List Oper} {ρ : Names} {A : AE} {e : Env} {H : AH} {h : Hp} {k : AE → AH → Bool} {kk : Env → Hp → Prop}, opsE P C all os A H k = true → EnvR ρ A e → Rel ρ H h → OkC ρ k kk → opsW P all os e h kk := by
  intro os
  induction os with
  | nil => intro ρ A e H h k kk he hE r ok; exact ok ρ _ _ _ _ (.refl ρ) hE r he
  | cons o os ih =>
    intro ρ A e H h k kk he hE r ok
    unfold opsW
    rw [opsE_cons] at he
    refine wantE_sound he hE fun b he => ?_
    cases b with
    | true =>
      refine stepE_sound cs he hE r fun ρ' a H' v h' w r' g he => ?_
      obtain ⟨A', he, hE'⟩ := putAE_elim he (hE.mono w) g
      exact ih he hE' r' (ok.mono w)
    | false =>
      simp only [cond_false] at he
      obtain ⟨A', he, hE'⟩ := putAE_elim he hE (.v undef)
      exact ih he hE' r ok
-- drawn regions
inductive LS where
  | p
  | s (n : Nat)
def lsV : LS → Nat → Value
  | .p, b => Sl.ptr b 0
  | .s n, b => .slice (some ⟨b, 0, none⟩) n n
def lsA : LS → Nat → AV
  | .p, i => .ptr i 0
  | .s n, i => .sl i 0 n n
theorem ls_rel (f : LS) {i b c : Nat} (h : ρ[i]? = some (b, c)) : R ρ (lsA f i) (lsV f b) := by
  cases f with
  | p => exact .ptr h
  | s n => exact .sl h
def sameLS : LS → LS → Bool
  | .p, .p => true
  | .s n, .s m => Nat.beq n m
  | _, _ => false
theorem sameLS_eq {f g : LS} (e : sameLS f g = true) : f = g := by
  cases f <;> cases g <;> simp_all [sameLS]
noncomputable def lateE (P : Program) (o : Oper) (A : AE) (kk : List AV → LS → Bool) : Bool := match o.op with
  | .alloc t => zeroE P t fun z => kk z .p
  | .box _ x => getE A x fun a => kk (cellsE a) .p
  | .buildSlice t n ps => partsE A ps.toList fun ps => sliceTE P t fun el => sizeE P el fun s => zeroE P el fun z => lenC z 0 fun m => chkE (Nat.ble (n * s) 16777216 && Nat.beq m s && Nat.blt 0 s)
    (optE (triplesE (fun i => some (i * s, s)) ps) fun ts => repC z n fun z => fillE ts z fun c => kk c (.s n))
  | _ => false
theorem lateE_sound {o : Oper} {kk : List AV → LS → Bool} {K : List Value → (Nat → Value) → Prop} (he : lateE P o A kk = true) (hE : EnvR ρ A e) (ok : ∀ c c' f, RL ρ c c' → kk c f = true → K c' (lsV f)) : lateK P o e K := by
  unfold lateE at he
  split at he
  · rename_i t hop
    simp only [lateK, hop]
    obtain ⟨z, z', hz, he, h1⟩ := zeroE_elim he ρ
    exact h1 _ (ok _ _ _ hz he)
  · rename_i t x hop
    simp only [lateK, hop]
    exact getE_sound hE he fun a v g he => ok _ _ _ g.cells he
  · rename_i t n ps hop
    simp only [lateK, hop]
    refine partsE_sound hE he fun as vs g he => ?_
    obtain ⟨el, he, h1⟩ := sliceTE_elim he
    obtain ⟨s, he, h2⟩ := sizeE_elim he
    obtain ⟨z, z', hz, he, h3⟩ := zeroE_elim he ρ
    have he := lenC_elim _ _ _ he
    obtain ⟨hc, he⟩ := chkE_elim he
    simp only [Bool.and_eq_true, Nat.ble_eq, Nat.beq_eq, Nat.zero_add] at hc
    obtain ⟨ts, hts, he⟩ := optE_elim he
    obtain ⟨ts', h4, h5⟩ := triplesE_sound g hts
    have he := repC_elim _ _ _ he
    have zl := hz.length
    refine h1 _ (h2 _ (h3 _ (chk_true ?_ ?_)))
    · have : 1 ≤ s := by simpa [Nat.blt] using hc.2
      simp; omega
    · rw [h4]; dsimp only [optK]
      exact fillE_sound h5 (repE_rel hz _) he fun c c' hc he => ok _ _ (.s n) hc he
  · cases he
abbrev TakenE := List (Nat × AV)
inductive RTk (ρ : Names) : TakenE → Taken → Prop
  | nil : RTk ρ [] []
  | cons {i : Nat} {a : AV} {v : Value} {l : TakenE} {l' : Taken} : R ρ a v → RTk ρ l l' → RTk ρ ((i, a) :: l) ((i, v) :: l')
theorem RTk.mono {ρ' : Names} (w : Wider ρ ρ') {l : TakenE} {l' : Taken} (h : RTk ρ l l') : RTk ρ' l l' := by
  induction h with
  | nil => exact .nil
  | cons g _ ih => exact .cons (g.mono w) ih
abbrev PendE := Option (Nat × List AV × LS)
inductive RPd (ρ : Names) : PendE → Pend → Prop
  | none : RPd ρ none none
  | some {l : Nat} {c : List AV} {c' : List Value} {f : LS} : RL ρ c c' → RPd ρ (some (l, c, f)) (some (l, c', lsV f))
theorem RPd.mono {ρ' : Names} (w : Wider ρ ρ') {l : PendE} {l' : Pend} (h : RPd ρ l l') : RPd ρ' l l' := by
  cases h with
  | none => exact .none
  | some g => exact .some (g.mono w)
noncomputable def yieldE (P : Program) (ops : Array Oper) (y : Nat) (a : AV) (A : AE) (H : AH) : Bool := match ops[y]? with
  | none => false
  | some o => wantE ops o A fun b => cond b (chkE (quietOp P o) (opE P o A H fun a' _ => sameA a' a)) (sameA (.v undef) a)
theorem yieldE_sound {ops : Array Oper} {y : Nat} {a : AV} {v : Value} (he : yieldE P ops y a A H = true) (hE : EnvR ρ A e) (r : Rel ρ H h) (g : R ρ a v) : yieldK P ops y v e h := by
  unfold yieldE at he
  unfold yieldK
  split at he
  · cases he
  · rename_i o ho
    rw [ho]
    refine wantE_sound he hE fun b he => ?_
    cases b with
    | true =>
      obtain ⟨hq, he⟩ := chkE_elim he
      exact opQ_sound hq he hE r fun a' u g' he => sameA_eq he g' g
    | false => exact (sameA_eq he (.v undef) g).symm
noncomputable def recheckE (P : Program) (ops : Array Oper) (rs : List Nat) (A : AE) (H : AH) : TakenE → Bool
  | [] => true
  | (y, a) :: T => cond (memN y rs) (chkE (yieldE P ops y a A H) (recheckE P ops rs A H T)) (recheckE P ops rs A H T)
theorem recheckE_sound {ops : Array Oper} {rs : List Nat} (hE : EnvR ρ A e) (r : Rel ρ H h) : ∀ {T : TakenE} {T' : Taken}, recheckE P ops rs A H T = true → RTk ρ T T' → recheckK P ops rs e h T' := by
  intro T
  induction T with
  | nil => intro T' he g; cases g; trivial
  | cons x T ih =>
    obtain ⟨y, a⟩ := x
    intro T' he g
    cases g with
    | cons g gs =>
    unfold recheckE at he
    unfold recheckK
    cases hx : memN y rs with
    | false => rw [hx] at he; exact ⟨trivial, ih he gs⟩
    | true =>
      rw [hx] at he
      obtain ⟨h1, he⟩ := chkE_elim he
      exact ⟨yieldE_sound h1 hE r g, ih he gs⟩
noncomputable def effE (P : Program) (C : CallT) (ops : Array Oper) (i : Nat) (A : AE) (H : AH) (K : AV → AH → Bool) : Bool := match ops[i]? with
  | none => false
  | some o => wantE ops o A fun b => cond b (stepE P C o A H K) (K (.v undef) H)
theorem effE_sound (cs : CS P C) {ops : Array Oper} {i : Nat} {K : AV → AH → Bool} {KK : Value → Hp → Prop} (he : effE P C ops i A H K = true) (hE : EnvR ρ A e) (r : Rel ρ H h) (ok : Ok ρ K KK) : effA P ops i e h KK := by
  unfold effE at he
  unfold effA
  split at he
  · cases he
  · rename_i o ho
    rw [ho]
    refine wantE_sound he hE fun b he => ?_
    cases b with
    | true => exact stepE_sound cs he hE r ok
    | false => exact ok.here r (.v undef) he
noncomputable def dstInE (A : AE) (d : Option Tmp) : Bool := match d with | some d => Nat.blt d A.n | none => true
noncomputable def samePE (pd : PendE) (c : List AV) (f : LS) : Bool := match pd with
  | none => true
  | some (_, c', f') => sameL c' c && sameLS f' f
noncomputable def drawE (P : Program) (C : CallT) (ops : Array Oper) : List PS → PendE → TakenE → AE → AH → (AE → AH → Bool) → Bool
  | [], _, _, A, H, k => k A H
  | .q i :: s, pd, T, A, H, k => match ops[i]? with
    | none => false
    | some o => wantE ops o A fun b => cond b (chkE (quietOp P o) (opE P o A H fun a _ => putAE A o.dst a fun A => drawE P C ops s pd ((i, a) :: T) A H k))
        (putAE A o.dst (.v undef) fun A => drawE P C ops s pd ((i, .v undef) :: T) A H k)
  | .e i rs :: s, pd, T, A, H, k => effE P C ops i A H fun a H' => putAE A (dstAt ops i) a fun A' =>
      chkE (recheckE P ops rs A' H' T) (drawE P C ops s pd T A' H' k)
  | .p i l rs0 rs :: s, pd, T, A, H, k => match ops[l]? with
    | none => false
    | some ol => lateE P ol A fun c f => chkE (dstInE A ol.dst) (chkE (samePE pd c f) (clearAE A ol.dst fun A0 => chkE (recheckE P ops rs0 A0 H T)
        (effE P C ops i A0 H fun a H' => putAE A0 (dstAt ops i) a fun A' => chkE (recheckE P ops rs A' H' T) (drawE P C ops s (some (l, c, f)) T A' H' k))))
  | .l i rs :: s, pd, T, A, H, k => match ops[i]?, pd with
    | some ol, some (_, c, f) => chkE (lateE P ol A fun c' f' => sameL c' c && sameLS f' f) (newE H c 0 fun b H' => putAE A ol.dst (lsA f b) fun A' =>
        chkE (recheckE P ops rs A' H' T) (drawE P C ops s none T A' H' k))
    | _, _ => false
theorem drawE_sound (cs : CS P C) {ops : Array Oper} : ∀ {s : List PS} {pd : PendE} {pd' : Pend} {T : TakenE} {T' : Taken} {L : Array Bool} {ρ : Names} {A : AE} {e : Env} {H : AH} {h : Hp} {k : AE → AH → Bool} {kk : Env → Hp → Prop},
    drawE P C ops s pd T A H k = true → EnvR ρ A e → Rel ρ H h → RTk ρ T T' → RPd ρ pd pd' → OkC ρ k kk → drawA P ops s pd' T' L e h kk := by
  intro s
  induction s with
  | nil => intro pd pd' T T' L ρ A e H h k kk he hE r gt gp ok; exact ok ρ _ _ _ _ (.refl ρ) hE r he
  | cons st s ih =>
    intro pd pd' T T' L ρ A e H h k kk he hE r gt gp ok
    cases st with
    | q i =>
      unfold drawE at he
      unfold drawA
      split at he
      · cases he
      · rename_i o ho
        rw [ho]
        refine wantE_sound he hE fun b he => ?_
        cases b with
        | true =>
          obtain ⟨hq, he⟩ := chkE_elim he
          refine opQ_sound hq he hE r fun a v g he => ?_
          obtain ⟨A', he, hE'⟩ := putAE_elim he hE g
          exact ih he hE' r (.cons g gt) gp ok
        | false =>
          simp only [cond_false] at he
          obtain ⟨A', he, hE'⟩ := putAE_elim he hE (.v undef)
          exact ih he hE' r (.cons (.v undef) gt) gp ok
    | e i rs =>
      unfold drawE at he
      unfold drawA
      refine effE_sound cs he hE r fun ρ' a H' v h' w r' g he => ?_
      obtain ⟨A', he, hE'⟩ := putAE_elim he (hE.mono w) g
      obtain ⟨hre, he⟩ := chkE_elim he
      exact ⟨recheckE_sound hE' r' hre (gt.mono w), ih he hE' r' (gt.mono w) (gp.mono w) (ok.mono w)⟩
    | p i l rs0 rs =>
      unfold drawE at he
      unfold drawA
      split at he
      · cases he
      · rename_i ol hol
        rw [hol]
        refine lateE_sound he hE fun c c' f hc he => ?_
        obtain ⟨h1, he⟩ := chkE_elim he
        obtain ⟨h2, he⟩ := chkE_elim he
        obtain ⟨A0, he, hE0⟩ := clearAE_elim he hE
        obtain ⟨h3, he⟩ := chkE_elim he
        refine ⟨?_, ?_, recheckE_sound hE0 r h3 gt, ?_⟩
        · unfold dstIn; unfold dstInE at h1
          split
          · rename_i d hd; rw [hd] at h1
            have h1 : d + 1 ≤ A.n := by simpa [Nat.blt] using h1
            rw [hE.len]; exact decide_eq_true h1
          · rfl
        · cases gp with
          | none => trivial
          | some gc =>
            simp only [samePE, Bool.and_eq_true] at h2
            exact ⟨sameL_eq h2.1 gc hc, by rw [sameLS_eq h2.2]⟩
        · refine effE_sound cs he hE0 r fun ρ' a H' v h' w r' g he => ?_
          obtain ⟨A', he, hE'⟩ := putAE_elim he (hE0.mono w) g
          obtain ⟨hre, he⟩ := chkE_elim he
          exact ⟨recheckE_sound hE' r' hre (gt.mono w), ih he hE' r' (gt.mono w) (.some (hc.mono w)) (ok.mono w)⟩
    | l i rs =>
      unfold drawE at he
      unfold drawA
      split at he
      · rename_i ol l c f hol
        rw [hol]
        cases gp with
        | some gc =>
        obtain ⟨h1, he⟩ := chkE_elim he
        refine ⟨lateE_sound h1 hE fun c2 c2' f2 hc2 h2 => ?_, ?_⟩
        · simp only [Bool.and_eq_true] at h2
          exact ⟨sameL_eq h2.1 hc2 gc, by rw [sameLS_eq h2.2]⟩
        · refine newK_ok r gc (fun ρ' H' b h' cap w r' hn he => ?_) he
          obtain ⟨A', he, hE'⟩ := putAE_elim he (hE.mono w) (ls_rel f hn)
          obtain ⟨hre, he⟩ := chkE_elim he
          exact ⟨recheckE_sound hE' r' hre (gt.mono w), ih he hE' r' (gt.mono w) .none (ok.mono w)⟩
      · cases he
end
end Go.Sl
/-
  An evaluator for closed runs. Part 8: code, calls.
-/
namespace Go.Sl
open Go
section
variable {P : Program} {C : CallT}
def okCode (P : Program) (pl : Nat → List PS) : Code → Bool
  | .region id ops true => Region.noSelect ops && planOk P ops (masks ops.toList []) (pl id) [] none (Array.replicate ops.size false) && ((pl id).length == ops.size)
  | .seq x y => okCode P pl x && okCode P pl y
  | .cond _ x y => okCode P pl x && okCode P pl y
  | .block _ c => okCode P pl c
  | .loop c => okCode P pl c
  | _ => true
def OkX (ρ : Names) (k : Exit → AE → AH → Bool) (kk : Exit → Env → Hp → Prop) : Prop := ∀ ρ' ex A H e h, Wider ρ ρ' → EnvR ρ' A e → Rel ρ' H h → k ex A H = true → kk ex e h
theorem OkX.mono {ρ ρ' : Names} (w : Wider ρ ρ') {k : Exit → AE → AH → Bool} {kk : Exit → Env → Hp → Prop} (ok : OkX ρ k kk) : OkX ρ' k kk := fun ρ2 ex A H e h w2 => ok ρ2 ex A H e h (w.trans w2)
noncomputable def codeE (P : Program) (C : CallT) (pl : Nat → List PS) (fuel : Nat) : Code → AE → AH → (Exit → AE → AH → Bool) → Bool :=
  Nat.rec (motive := fun _ => Code → AE → AH → (Exit → AE → AH → Bool) → Bool) (fun _ _ _ _ => false)
    (fun _ ih c A H k => match c with
      | .skip => k .normal A H
      | .ret => k .ret A H
      | .exit id => k (.exit id) A H
      | .seq x y => ih x A H fun ex A H => match ex with
        | .normal => ih y A H k
        | ex => k ex A H
      | .cond c x y => getE A c fun a => boolE a fun b => cond b (ih x A H k) (ih y A H k)
      | .block id c => ih c A H fun ex A H => match ex with
        | .exit i => cond (Nat.beq i id) (k .normal A H) (k (.exit i) A H)
        | ex => k ex A H
      | .region id ops d => cond d (drawE P C ops (pl id) none [] A H fun A H => flushE A fun A => k .normal A H) (opsE P C ops ops.toList A H fun A H => flushE A fun A => k .normal A H)
      | .loop c => ih c A H fun ex A H => match ex with
        | .normal => ih (.loop c) A H k
        | ex => k ex A H
      | _ => false) fuel
theorem codeE_succ (pl : Nat → List PS) (n : Nat) (c : Code) (A : AE) (H : AH) (k : Exit → AE → AH → Bool) : codeE P C pl (n + 1) c A H k = (match c with
      | .skip => k .normal A H
      | .ret => k .ret A H
      | .exit id => k (.exit id) A H
      | .seq x y => codeE P C pl n x A H fun ex A H => match ex with
        | .normal => codeE P C pl n y A H k
        | ex => k ex A H
      | .cond c x y => getE A c fun a => boolE a fun b => cond b (codeE P C pl n x A H k) (codeE P C pl n y A H k)
      | .block id c => codeE P C pl n c A H fun ex A H => match ex with
        | .exit i => cond (Nat.beq i id) (k .normal A H) (k (.exit i) A H)
        | ex => k ex A H
      | .region id ops d => cond d (drawE P C ops (pl id) none [] A H fun A H => flushE A fun A => k .normal A H) (opsE P C ops ops.toList A H fun A H => flushE A fun A => k .normal A H)
      | .loop c => codeE P C pl n c A H fun ex A H => match ex with
        | .normal => codeE P C pl n (.loop c) A H k
        | ex => k ex A H
      | _ => false) := rfl
def loopNQ (I : Nat → Env → Hp → Prop) (n : Nat) (k : Exit → Env → Hp → Prop) : Exit → Env → Hp → Prop
  | .normal, e, h => ∃ m, m < n ∧ I m e h
  | ex, e, h => k ex e h
theorem CodeA.loopN {c : Code} {e : Env} {h : Hp} {k : Exit → Env → Hp → Prop} (I : Nat → Env → Hp → Prop) {n : Nat} (h0 : I n e h) (hc : ∀ n e h, I n e h → CodeA P c e h (loopNQ I n k)) : CodeA P (.loop c) e h k := by
  intro a w hE hr Q hQ b k' cs
  have key : ∀ n e1 h1 a1 w1, I n e1 h1 → EnvOk e1 a1.tmps → a1.defers = a.defers → Rep h1 w1 → Ext h w h1 w1 →
      ∃ ex a' w', Q ex a' w' ∧ Arrives P (lone (b.at a1 (.code c :: .inLoop c :: k')) cs w1) b k' cs ex a' w' := by
    intro n
    induction n using Nat.strongRecOn with
    | _ n ih =>
      intro e1 h1 a1 w1 hI hE1 hd1 hr1 hx1
      let Q' : Exit → Act → World → Prop := fun ex a' w' => match ex with
        | .normal => ∃ m e' h', m < n ∧ I m e' h' ∧ EnvOk e' a'.tmps ∧ a'.defers = a.defers ∧ Rep h' w' ∧ Ext h w h' w'
        | ex => Q ex a' w'
      obtain ⟨ex, a2, w2, hq, harr⟩ := hc n e1 h1 hI a1 w1 hE1 hr1 Q' (by
        intro ex e' h' a' w' hk hE' hd' hr' hx'
        cases ex with
        | normal => obtain ⟨m, hm, hk⟩ := hk; exact ⟨m, e', h', hm, hk, hE', hd'.trans hd1, hr', hx1.trans hx'⟩
        | _ => exact hQ _ e' h' a' w' hk hE' (hd'.trans hd1) hr' (hx1.trans hx')) b (.inLoop c :: k') cs
      cases ex with
      | normal =>
        obtain ⟨m, e', h', hlt, hI', hE', hd', hr', hx'⟩ := hq
        obtain ⟨ex2, a3, w3, hq3, harr3⟩ := ih m hlt e' h' a2 w2 hI' hE' hd' hr' hx'
        exact ⟨ex2, a3, w3, hq3, .of_steps (Steps.trans harr (.one step_inLoop)) harr3⟩
      | exit id => exact ⟨_, a2, w2, hq, .pass (x := .inLoop c) rfl (fun _ _ => .inl (by simp)) harr⟩
      | goto l => exact ⟨_, a2, w2, hq, .pass (x := .inLoop c) rfl (fun _ _ => .inl (by simp)) harr⟩
      | ret => exact ⟨_, a2, w2, hq, .pass (x := .inLoop c) rfl (fun _ _ => .inl (by simp)) harr⟩
      | panic ch => exact ⟨_, a2, w2, hq, .pass (x := .inLoop c) rfl (fun _ _ => .inl (by simp)) harr⟩
      | outgrown => exact ⟨_, a2, w2, hq, .pass (x := .inLoop c) rfl (fun _ _ => .inl (by simp)) harr⟩
  obtain ⟨ex, a', w', hq, harr⟩ := key n e h a w h0 hE rfl hr (.refl h w)
  exact ⟨ex, a', w', hq, .of_steps (.one step_loop) harr⟩
theorem codeE_sound (hm : P.follows .mixedOrders = true) (cs : CS P C) {pl : Nat → List PS} : ∀ (n : Nat) {c : Code} {ρ : Names} {A : AE} {e : Env} {H : AH} {h : Hp} {k : Exit → AE → AH → Bool} {kk : Exit → Env → Hp → Prop},
    codeE P C pl n c A H k = true → okCode P pl c = true → EnvR ρ A e → Rel ρ H h → OkX ρ k kk → CodeA P c e h kk := by
  intro n
  induction n using Nat.strongRecOn with
  | _ n ih =>
  intro c ρ A e H h k kk he ho hE r ok
  cases n with
  | zero => cases he
  | succ n =>
  rw [codeE_succ] at he
  have hlt : n < n + 1 := Nat.lt_succ_self n
  cases c with
  | skip => exact .skip (ok ρ _ _ _ _ _ (.refl ρ) hE r he)
  | ret => exact .ret (ok ρ _ _ _ _ _ (.refl ρ) hE r he)
  | exit id => exact .exit (ok ρ _ _ _ _ _ (.refl ρ) hE r he)
  | seq x y =>
    simp only [okCode, Bool.and_eq_true] at ho
    refine .seq (ih n hlt he ho.1 hE r fun ρ' ex A' H' e' h' w hE' r' he => ?_)
    cases ex with
    | normal => exact ih n hlt he ho.2 hE' r' (ok.mono w)
    | _ => exact ok ρ' _ _ _ _ _ w hE' r' he
  | cond c x y =>
    simp only [okCode, Bool.and_eq_true] at ho
    refine .cond (getE_sound hE he fun a v g he => ?_)
    obtain ⟨b, rfl, he⟩ := boolE_elim he
    cases g
    cases b
    · exact ih n hlt he ho.2 hE r ok
    · exact ih n hlt he ho.1 hE r ok
  | block id c =>
    simp only [okCode] at ho
    refine .block (ih n hlt he ho hE r fun ρ' ex A' H' e' h' w hE' r' he => ?_)
    cases ex with
    | exit i =>
      simp only [blockQ]
      dsimp only at he
      cases hb : Nat.beq i id with
      | true =>
        rw [hb] at he
        have : (i == id) = true := by simpa using Nat.eq_of_beq_eq_true hb
        rw [this]
        exact ok ρ' _ _ _ _ _ w hE' r' he
      | false =>
        rw [hb] at he
        have : (i == id) = false := by
          cases hx : i == id with
          | false => rfl
          | true =>
            have hii : i = id := by simpa using hx
            subst hii; simp at hb
        rw [this]
        exact ok ρ' _ _ _ _ _ w hE' r' he
    | _ => exact ok ρ' _ _ _ _ _ w hE' r' he
  | region id ops d =>
    cases d with
    | true =>
      simp only [okCode, Bool.and_eq_true, beq_iff_eq] at ho
      exact .regionD hm ho.1.1 ho.1.2 ho.2 (drawE_sound cs he hE r .nil .none fun ρ' A' H' e' h' w hE' r' he => by
        obtain ⟨A2, he, hE2⟩ := flushE_elim he hE'
        exact ok ρ' _ _ _ _ _ w hE2 r' he)
    | false => exact .regionW (opsE_sound cs he hE r fun ρ' A' H' e' h' w hE' r' he => by
        obtain ⟨A2, he, hE2⟩ := flushE_elim he hE'
        exact ok ρ' _ _ _ _ _ w hE2 r' he)
  | loop c =>
    have ho' : okCode P pl c = true := ho
    refine CodeA.loopN (n := n) (fun m e h => m < n + 1 ∧ ∃ ρ' A H, Wider ρ ρ' ∧ EnvR ρ' A e ∧ Rel ρ' H h ∧ (codeE P C pl m c A H fun ex A H => match ex with
        | .normal => codeE P C pl m (.loop c) A H k
        | ex => k ex A H) = true) ⟨hlt, ρ, A, H, .refl ρ, hE, r, he⟩ ?_
    rintro m e1 h1 ⟨hm1, ρ1, A1, H1, w1, hE1, r1, he1⟩
    refine ih m hm1 he1 ho' hE1 r1 fun ρ2 ex A2 H2 e2 h2 w2 hE2 r2 he2 => ?_
    cases ex with
    | normal =>
      dsimp only at he2
      cases m with
      | zero => cases he2
      | succ q =>
        rw [codeE_succ] at he2
        exact ⟨q, by omega, by omega, ρ2, A2, H2, w1.trans w2, hE2, r2, he2⟩
    | _ => exact ok ρ2 _ _ _ _ _ (w1.trans w2) hE2 r2 he2
  | _ => cases he
noncomputable def initL (l : List AV) : Nat → List (Nat × Option AV) → (List (Nat × Option AV) → Bool) → Bool :=
  List.rec (motive := fun _ => Nat → List (Nat × Option AV) → (List (Nat × Option AV) → Bool) → Bool) (fun _ t k => k t) (fun a _ ih j t k => forceN (j + 1) fun j1 => ih j1 ((j, some a) :: t) k) l
theorem initL_elim {ρ : Names} {n kp : Nat} {e : Env} : ∀ {as : List AV} {vs : List Value} {j : Nat} {l : List (Nat × Option AV)} {k : List (Nat × Option AV) → Bool}, initL as j l k = true → RL ρ as vs →
    (∀ i v, vs[i]? = some v → e[j + i]? = some (some v)) → EnvR ρ ⟨n, kp, .e, l⟩ e → ∃ l', k l' = true ∧ EnvR ρ ⟨n, kp, .e, l'⟩ e := by
  intro as
  induction as with
  | nil => intro vs j l k h g hv hE; exact ⟨l, h, hE⟩
  | cons a as ih =>
    intro vs j l k h g hv hE
    cases g with
    | cons g gs =>
    rename_i v vs
    have h : (forceN (j + 1) fun j1 => initL as j1 ((j, some a) :: l) k) = true := h
    rw [forceN_eq] at h
    refine ih h gs (fun i u hu => by rw [show j + 1 + i = j + (i + 1) by omega]; exact hv (i + 1) u (by simpa using hu)) ⟨hE.len, hE.kept, fun i b hb => ?_⟩
    have hg := get_push ⟨n, kp, .e, l⟩ j (some a) i
    dsimp only at hg
    rw [hg] at hb
    split at hb
    · rename_i hi; cases hb; subst hi
      exact ⟨v, by simpa using hv 0 v rfl, g⟩
    · exact hE.get i b hb
noncomputable def resE (P : Program) (A : AE) (H : AH) : List ResultVar → (List AV → Bool) → Bool
  | [], k => k []
  | .tmp t :: l, k => getE A (.tmp t) fun a => resE P A H l fun as => k (a :: as)
  | .cell t ty :: l, k => getE A (.tmp t) fun p => loadE P ty p H fun a _ => resE P A H l fun as => k (a :: as)
theorem resE_sound {ρ : Names} {A : AE} {e : Env} {H : AH} {h : Hp} (hE : EnvR ρ A e) (r : Rel ρ H h) : ∀ {l : List ResultVar} {k : List AV → Bool} {K : List Value → Prop}, resE P A H l k = true → (∀ a v, RL ρ a v → k a = true → K v) → resK P e h l K := by
  intro l
  induction l with
  | nil => intro k K he ok; exact ok _ _ .nil he
  | cons x l ih =>
    intro k K he ok
    cases x with
    | tmp t => exact getE_sound hE he fun a v g he => ih he fun as vs gs he => ok _ _ (.cons g gs) he
    | cell t ty =>
      exact getE_sound hE he fun a v g he => loadE_sound he r g fun a v g he => ⟨rfl, ih he fun as vs gs he => ok _ _ (.cons g gs) he⟩
def oneA (l : List AV) : AV := match l with | [a] => a | l => .tup l
theorem oneA_rel {ρ : Names} {as : List AV} {vs : List Value} (g : RL ρ as vs) : R ρ (oneA as) (oneOf vs) := by
  cases g with
  | nil => exact .tup .nil
  | cons g gs => cases gs with
    | nil => exact g
    | cons g2 gs => exact .tup (.cons g (.cons g2 gs))
abbrev Orc := FuncId → Option (List AV → AH → (AV → AH → Bool) → Bool)
noncomputable def callE (P : Program) (orc : Orc) (pls : Nat → Nat → List PS) (kps : Nat → Nat) (fuel : Nat) : CallT :=
  Nat.rec (motive := fun _ => CallT) (fun _ _ _ _ => false)
    (fun _ C i args H k => match orc i with
      | some f => f args H k
      | none => match P.funcs[i]? with
        | some fn => match fn.body with
          | some c => lenC args 0 fun m => chkE (fnOk P i && Nat.ble m fn.ntmps) (initL args 0 [] fun l => flushE ⟨fn.ntmps, kps i, .e, l⟩ fun A => codeE P C (pls i) 100000000 c A H fun ex A H => match ex with
            | .normal => resE P A H fn.results.toList fun vs => k (oneA vs) H
            | .ret => resE P A H fn.results.toList fun vs => k (oneA vs) H
            | _ => false)
          | none => false
        | none => false) fuel
def PlansOk (P : Program) (orc : Orc) (pls : Nat → Nat → List PS) : Prop := ∀ i fn c, orc i = none → P.funcs[i]? = some fn → fn.body = some c → okCode P (pls i) c = true
def OrcOk (P : Program) (orc : Orc) : Prop := ∀ i f, orc i = some f → ∀ args args' H h ρ k kk, f args H k = true → Rel ρ H h → RL ρ args args' → Ok ρ k kk → EnterA P i args' h kk
theorem callE_sound {orc : Orc} {pls : Nat → Nat → List PS} {kps : Nat → Nat} (hm : P.follows .mixedOrders = true) (hp : PlansOk P orc pls) (ho : OrcOk P orc) : ∀ n, CS P (callE P orc pls kps n) := by
  intro n
  induction n with
  | zero => intro i args args' H h ρ k kk he; cases he
  | succ n ih =>
    intro i args args' H h ρ k kk he r g ok
    have he : (match orc i with
      | some f => f args H k
      | none => match P.funcs[i]? with
        | some fn => match fn.body with
          | some c => lenC args 0 fun m => chkE (fnOk P i && Nat.ble m fn.ntmps) (initL args 0 [] fun l => flushE ⟨fn.ntmps, kps i, .e, l⟩ fun A => codeE P (callE P orc pls kps n) (pls i) 100000000 c A H fun ex A H => match ex with
            | .normal => resE P A H fn.results.toList fun vs => k (oneA vs) H
            | .ret => resE P A H fn.results.toList fun vs => k (oneA vs) H
            | _ => false)
          | none => false
        | none => false) = true := he
    split at he
    · rename_i f hf
      exact ho i f hf _ _ _ _ _ _ _ he r g ok
    · rename_i hnone
      split at he
      · rename_i fn hfn
        split at he
        · rename_i c hc
          have he := lenC_elim _ _ _ he
          obtain ⟨hl, he⟩ := chkE_elim he
          simp only [Bool.and_eq_true, Nat.ble_eq, Nat.zero_add] at hl
          obtain ⟨hok, hl⟩ := hl
          have gl := g.length
          obtain ⟨l, he, hE⟩ := initL_elim (n := fn.ntmps) (kp := kps i) (e := args'.map some ++ List.replicate (fn.ntmps - args'.length) none) he g
            (fun i v hv => by
              have hlt : i < args'.length := by
                rcases Nat.lt_or_ge i args'.length with h | h
                · exact h
                · rw [List.getElem?_eq_none h] at hv; cases hv
              rw [Nat.zero_add, List.getElem?_append_left (by simpa using hlt)]; simp [hv])
            ⟨by simp; omega, fun i a hi => (by cases hi), fun i a hi => (by cases hi)⟩
          obtain ⟨A, he, hE⟩ := flushE_elim he hE
          refine .inl ⟨hok, CallA.func hfn hc (codeE_sound hm ih _ he (hp i fn c hnone hfn hc) hE r fun ρ' ex A H' e' h' w hE' r' he => ?_)⟩
          have fin : (resE P A H' fn.results.toList fun vs => k (oneA vs) H') = true → resK P e' h' fn.results.toList fun vs => ∃ h2, Sub h2 h' ∧ kk (oneOf vs) h2 :=
            fun he => resE_sound hE' r' he fun as vs gs he => ⟨h', Sub.refl _, ok ρ' _ _ _ _ w r' (oneA_rel gs) he⟩
          cases ex with
          | normal => exact fin he
          | ret => exact fin he
          | _ => cases he
        · cases he
      · cases he
end
end Go.Sl
