/-
  Part 8: maps; a string gone through byte by byte; conversions by type.
-/
import Derived.Test.YtgelbhclfnpedaaGreatDoorWCA
import Derived.Laws.RangeString
import Derived.Maps.RangeRun
import Derived.Orders
set_option linter.all false
set_option linter.unusedVariables false
set_option linter.unusedSimpArgs false
namespace Go.Sl
open Go
section
variable {P : Program} {h : Hp} {k : Value → Hp → Prop}
abbrev Found := Option (Nat × Value)
def findAggK (P : Program) (kt : TypeId) (lk : List Lit) : List MapEntry → Nat → (Found → Prop) → Prop
  | [], _, k => k none
  | e :: es, i, k => chk (e.key.formed P kt) (optK (P.keyLits 10 kt (cellsL e.key)) fun le => (lk = le → k (some (i, e.val))) ∧ (lk ≠ le → findAggK P kt lk es (i + 1) k))
def findK (P : Program) (kt : TypeId) (key : Value) (es : List MapEntry) (k : Found → Prop) : Prop :=
  match P.underlying kt with
  | some (.int q) => optK (Instr.findNow (.int q) key es 0) k
  | some .string => optK (Instr.findNow .string key es 0) k
  | some .bool => optK (Instr.findNow .bool key es 0) k
  | some (.struct _) => chk (P.keyTypeAt 10 kt && key.formed P kt) (optK (P.keyLits 10 kt (cellsL key)) fun lk => findAggK P kt lk es 0 k)
  | _ => False
theorem findAsking_sound {kt : TypeId} {key : Value} {lk : List Lit} (ht : P.keyTypeAt 10 kt = true) (hf : key.formed P kt = true) (hl : P.keyLits 10 kt (cellsL key) = some lk) {g : Found → Prop} :
    ∀ (es : List MapEntry) (i : Nat), findAggK P kt lk es i g → QA P (Instr.findAsking kt key es i) h g := by
  intro es
  induction es with
  | nil => intro i e; exact .pure e
  | cons x es ih =>
    intro i e
    obtain ⟨hx, e⟩ := chk_elim e
    obtain ⟨le, hle, e1, e2⟩ := optK_elim e
    refine .bind ?_
    by_cases hl' : lk = le
    · refine ⟨true, .pure (e1 hl'), fun w _ => ?_⟩
      obtain ⟨r, hr, hi⟩ := run_equalIn_deep 9990 10 kt ht w 10 10 key x.key lk le hf hx hl hle
      rw [← hi.2 hl']; exact hr
    · refine ⟨false, ih (i + 1) (e2 hl'), fun w _ => ?_⟩
      obtain ⟨r, hr, hi⟩ := run_equalIn_deep 9990 10 kt ht w 10 10 key x.key lk le hf hx hl hle
      have : r = false := by cases r with | true => exact absurd (hi.1 rfl) hl' | false => rfl
      rw [← this]; exact hr
theorem findK_sound {kt : TypeId} {key : Value} {es : List MapEntry} {g : Found → Prop} (e : findK P kt key es g) (em : Bool) :
    QA P (Instr.checkKey em 10000 kt key) h (fun _ => True) ∧ QA P (Instr.findKey kt key es) h g := by
  have plain : ∀ d, P.underlying kt = some d → (match d with | .int _ | .string | .bool => true | _ => false) = true → optK (Instr.findNow d key es 0) g →
      QA P (Instr.checkKey em 10000 kt key) h (fun _ => True) ∧ QA P (Instr.findKey kt key es) h g := by
    intro d hu hd e
    obtain ⟨r, hr, e⟩ := optK_elim e
    refine ⟨.bind (.underlying hu ?_), .bind (.underlying hu ?_)⟩
    · cases d <;> first | (cases hd; done) | (cases key <;> exact .pure trivial)
    · rw [hr]; exact .pure e
  unfold findK at e
  split at e
  · rename_i q hu; exact plain _ hu rfl e
  · rename_i hu; exact plain _ hu rfl e
  · rename_i hu; exact plain _ hu rfl e
  · rename_i fs hu
    obtain ⟨hc, e⟩ := chk_elim e
    simp only [Bool.and_eq_true] at hc
    obtain ⟨lk, hlk, e⟩ := optK_elim e
    refine ⟨⟨(), trivial, fun w _ => run_checkKey_deep em 9990 10 kt hc.1 w 10 key lk hc.2 hlk⟩, .bind (.underlying hu ?_)⟩
    cases es with
    | nil => exact .pure e
    | cons x es =>
      have : Instr.findNow (.struct fs) key (x :: es) 0 = none := by simp [Instr.findNow, Instr.sameNow]
      rw [this]
      exact findAsking_sound hc.1 hc.2 hlk _ 0 e
  · exact e.elim
def zeroVK (P : Program) (t : TypeId) (k : Value → Prop) : Prop :=
  match P.info? t with
  | some i => match i.zero with
    | some z => k z
    | none => False
  | none => False
theorem zeroVK_elim {t : TypeId} {k : Value → Prop} (e : zeroVK P t k) : ∃ i z, P.info? t = some i ∧ i.zero = some z ∧ k z := by
  unfold zeroVK at e; split at e
  · rename_i i hi; split at e
    · rename_i z hz; exact ⟨i, z, hi, hz, e⟩
    · exact e.elim
  · exact e.elim
def mapEsK (m : Value) (h : Hp) (k : List MapEntry → Prop) : Prop :=
  match m with
  | .map none => k []
  | .map (some r) => mapK h r fun es _ => k es
  | _ => False
theorem mapEsK_elim {m : Value} {g : List MapEntry → Prop} (e : mapEsK m h g) : (m = .map none ∧ g []) ∨ ∃ r es c, m = .map (some r) ∧ h r = some (.map es c) ∧ g es := by
  unfold mapEsK at e; split at e
  · exact .inl ⟨rfl, e⟩
  · obtain ⟨es, c, hm, e⟩ := mapK_elim e
    exact .inr ⟨_, es, c, rfl, hm, e⟩
  · exact e.elim
def okV (ok : Bool) (v : Value) (b : Bool) : Value := match ok with | true => tup [v, .bool b] | false => v
def lookK (P : Program) (kt : TypeId) (z m key : Value) (h : Hp) (k : Value → Bool → Prop) : Prop :=
  mapEsK m h fun es => findK P kt key es fun r => match r with
    | some (_, v) => k v true
    | none => k z false
def lookupOp (P : Program) (t : TypeId) (m key : Value) (ok : Bool) (h : Hp) (k : Value → Hp → Prop) : Prop :=
  match P.underlying t with
  | some (.map kt el) => zeroVK P el fun z => lookK P kt z m key h fun v b => k (okV ok v b) h
  | _ => False
theorem lookupOp_sound {t : TypeId} {m key : Value} {ok : Bool} (e : lookupOp P t m key ok h k) : QA P (Instr.lookup t m key ok) h fun v => k v h := by
  unfold lookupOp at e; split at e
  · rename_i kt el hu
    obtain ⟨i, z, hi, hz, e⟩ := zeroVK_elim e
    have go : ∀ es : List MapEntry, (findK P kt key es fun r => match r with | some (_, v) => k (okV ok v true) h | none => k (okV ok z false) h) →
        QA P (do
          Instr.checkKey es.toArray.isEmpty 10000 kt key
          let (v, ok') ← match ← Instr.findKey kt key es.toArray.toList with
            | some (_, v) => pure (v, true)
            | none => pure (← zeroValue el, false)
          pure (if ok = true then .tuple #[v, .bool ok'] else v)) h fun v => k v h := by
      intro es e
      obtain ⟨h1, h2⟩ := findK_sound (h := h) e es.toArray.isEmpty
      refine .bind (h1.mono fun _ _ => .bind (h2.mono fun r hr => ?_))
      cases r with
      | some x => obtain ⟨j, v⟩ := x; exact .bind (.pure (.pure (by cases ok <;> exact hr)))
      | none => exact .bind (.zeroValue hi hz (.bind (.pure (.pure (by cases ok <;> exact hr)))))
    refine .bind (.underlying hu ?_)
    rcases mapEsK_elim e with ⟨rfl, e⟩ | ⟨r, es, c, rfl, hm, e⟩
    · exact .bind (.pure (go [] e))
    · exact .bind (.bind (.getMap hm (.pure (go es e))))
  · exact e.elim
def updK (P : Program) (kt : TypeId) (m key v : Value) (h : Hp) (k : Hp → Prop) : Prop :=
  match m with
  | .map (some r) => mapK h r fun es c => findK P kt key es fun x => match x with
    | some (i, _) => chk (Instr.sameBits 10000 (((es[i]?).map (·.key)).getD key) key) (k (upd h r (.map (es.modify i fun e => { e with key, val := v }) c)))
    | none => k (upd h r (.map (es ++ [{ key, val := v, born := c }]) (c + 1)))
  | _ => False
def mapUpdOp (P : Program) (t : TypeId) (m key v : Value) (h : Hp) (k : Value → Hp → Prop) : Prop :=
  match P.underlying t with
  | some (.map kt _) => updK P kt m key v h fun h => k undef h
  | _ => False
theorem mapUpdOp_sound {t : TypeId} {m key v : Value} (e : mapUpdOp P t m key v h k) : SemA P (do Instr.mapUpdate t m key v; pure Next.skip) h (fun _ h' => k undef h') := by
  unfold mapUpdOp at e; split at e
  · rename_i kt el hu
    unfold updK at e; split at e
    · rename_i r
      obtain ⟨es, c, hm, e⟩ := mapK_elim e
      obtain ⟨h1, h2⟩ := findK_sound (h := h) e false
      refine .bind (.bind (.underlying hu (.bind (.getMap hm (.bind (h1.mono fun _ _ => .bind (h2.mono fun x hx => ?_).sem).sem)))))
      cases x with
      | some y =>
        obtain ⟨i, v'⟩ := y
        obtain ⟨hs, hx⟩ := chk_elim hx
        have hs' : Instr.sameBits 10000 (((es.toArray[i]?).map (·.key)).getD key) key = true := by simpa using hs
        refine .bind ?_
        unfold Instr.keyThatStays
        rw [if_pos hs']
        refine .pure ?_
        rw [List.modify_toArray]
        exact .setMap hm (.pure hx)
      | none =>
        rw [List.push_toArray]
        exact .setMap hm (.pure hx)
    · exact e.elim
  · exact e.elim
def mapEntOp (P : Program) (t : TypeId) (m key : Value) (h : Hp) (k : Value → Hp → Prop) : Prop :=
  match P.underlying t, m with
  | some (.map kt el), .map (some r) => zeroVK P el fun z => mapK h r fun es c => findK P kt key es fun x => match x with
    | some (i, v) => chk (Instr.sameBits 10000 (((es[i]?).map (·.key)).getD key) key) (k (tup [v, .int .i64 (((es[i]?).map fun x => (x.born : Int)).getD 0)]) (upd h r (.map (es.modify i fun e => { e with key }) c)))
    | none => k (tup [z, .int .i64 c]) (upd h r (.map (es ++ [{ key, val := z, born := c }]) (c + 1)))
  | _, _ => False
theorem mapEntOp_sound {t : TypeId} {m key : Value} (e : mapEntOp P t m key h k) : SemA P (Instr.mapEntry t m key) h k := by
  unfold mapEntOp at e; split at e
  · rename_i kt el r hu
    obtain ⟨ie, z, hi, hz, e⟩ := zeroVK_elim e
    obtain ⟨es, c, hm, e⟩ := mapK_elim e
    obtain ⟨h1, h2⟩ := findK_sound (h := h) e false
    refine .bind (.underlying hu (.bind (.getMap hm (.bind (h1.mono fun _ _ => .bind (h2.mono fun x hx => ?_).sem).sem))))
    cases x with
    | some y =>
      obtain ⟨i, v'⟩ := y
      obtain ⟨hs, hx⟩ := chk_elim hx
      have hs' : Instr.sameBits 10000 (((es.toArray[i]?).map (·.key)).getD key) key = true := by simpa using hs
      refine .bind ?_
      unfold Instr.keyThatStays
      rw [if_pos hs']
      refine .pure ?_
      rw [List.modify_toArray]
      exact .bind (.setMap hm (.pure (by simpa [tup, goInt] using hx)))
    | none =>
      refine .bind (.zeroValue hi hz ?_)
      rw [List.push_toArray]
      exact .bind (.setMap hm (.pure (by simpa [tup, goInt] using hx)))
  · exact e.elim
def entStoreOp (m s v : Value) (h : Hp) (k : Value → Hp → Prop) : Prop :=
  match m, s with
  | .map (some r), .int _ n => mapK h r fun es c => optK (es.findIdx? fun e => (e.born : Int) == n) fun i => k undef (upd h r (.map (es.modify i fun e => { e with val := v }) c))
  | _, _ => False
theorem entStoreOp_sound {t : TypeId} {m s v : Value} (e : entStoreOp m s v h k) : SemA P (do Instr.entryStore t m s v; pure Next.skip) h (fun _ h' => k undef h') := by
  unfold entStoreOp at e; split at e
  · rename_i r q n
    obtain ⟨es, c, hm, e⟩ := mapK_elim e
    obtain ⟨i, hi, e⟩ := optK_elim e
    refine .bind (.bind (.getMap hm (.bind (.of_run (a := n) (fun _ => rfl) ?_))))
    have hi' : es.toArray.findIdx? (fun e => (e.born : Int) == n) = some i := by simpa using hi
    rw [hi']
    dsimp only
    rw [List.modify_toArray]
    exact .setMap hm (.pure e)
  · exact e.elim

-- a range over a string of ASCII
def rangeOp (P : Program) (t : TypeId) (x : Value) (h : Hp) (k : Value → Hp → Prop) : Prop :=
  match P.underlying t with
  | some .string => strK x fun s => ∀ b, h b = none → k (ptr b 0) (upd h b (.iter s 0))
  | some (.map _ _) => (match x with
    | .map (some m) => mapK h m fun _ c => ∀ b, h b = none → k (ptr b 0) (upd h b (.miter m c [] c))
    | _ => False)
  | _ => False
theorem rangeOp_sound {t : TypeId} {x : Value} (e : rangeOp P t x h k) : SemA P (Instr.range t x) h k := by
  unfold rangeOp at e; split at e
  · rename_i hu
    obtain ⟨s, rfl, e⟩ := strK_elim e
    exact .bind (.underlying hu (.bind (.pure (.bind (.newObj (o := .iter s 0) rfl fun b hb => .pure (e b hb))))))
  · rename_i kt el hu
    split at e
    · rename_i m
      obtain ⟨es, c, hm, e⟩ := mapK_elim e
      refine .bind (.underlying hu (.bind (.getMap hm ?_)))
      dsimp only
      exact .bind (.pure (.bind (.newObj (o := .miter m c [] c) rfl fun b hb => .pure (e b hb))))
    · exact e.elim
  · exact e.elim
def nextSOp (it : Value) (h : Hp) (k : Value → Hp → Prop) : Prop :=
  match it with
  | .pointer (some ⟨r, 0, none⟩) => match h r with
    | some (.iter s p) => (p < s.size → chk (decide ((s.data.toList.getD p 0).toNat < 128)) (k (tup [.bool true, .int .i64 p, .int .i32 ((s.data.toList.getD p 0).toNat : Nat)]) (upd h r (.iter s (p + 1))))) ∧
        (¬ p < s.size → k (tup [.bool false]) h)
    | _ => False
  | _ => False
theorem ascii_decode (s : ByteArray) (p : Nat) (hp : p < s.size) (ha : (s.data.toList.getD p 0).toNat < 128) : Utf8.decode s p = (((s.data.toList.getD p 0).toNat : Nat), 1) := by
  have hg : s.data.toList.getD p 0 = s[p] := by rw [List.getD, List.getElem?_eq_getElem (by simpa using hp)]; rfl
  rw [hg] at ha ⊢
  exact decode_ascii s p hp ha
theorem nextSOp_sound {it : Value} {t : TypeId} (e : nextSOp it h k) : SemA P (Instr.next it true t) h k := by
  unfold nextSOp at e; split at e
  · rename_i r
    split at e
    · rename_i s p hr
      obtain ⟨e1, e2⟩ := e
      refine .bind (.getIter hr ?_)
      dsimp only
      by_cases hp : p < s.size
      · obtain ⟨ha, e1⟩ := chk_elim (e1 hp)
        rw [if_pos hp, ascii_decode s p hp (by simpa using ha)]
        exact .bind (.setIter hr (.pure e1))
      · rw [if_neg hp]; exact .pure (e2 hp)
    · exact e.elim
  · exact e.elim
-- a range over a map: any entry that is left may come next
def leftL (es : List MapEntry) (seen : List Nat) : List MapEntry := es.filter fun e => !seen.contains e.born
def nextMOp (it : Value) (h : Hp) (k : Value → Hp → Prop) : Prop :=
  match it with
  | .pointer (some ⟨r, 0, none⟩) => match h r with
    | some (.miter m since seen last) => mapK h m fun es c => chk (es.all (fun e => decide (e.born < since)) && decide (since ≤ last))
        ((leftL es seen = [] → k (tup [.bool false]) h) ∧ ∀ e ∈ leftL es seen, k (tup [.bool true, e.key, e.val]) (upd h r (.miter m since (seen ++ [e.born]) c)))
    | _ => False
  | _ => False
theorem SemA.getMiter {r m since last : Nat} {seen : List Nat} {k : Go.Obj → Hp → Prop} (e : h r = some (.miter m since seen last)) (hk : k (.mapIter (some m) since seen.toArray last) h) : SemA P (Go.getObj r) h k := by
  intro w rp
  obtain ⟨x, hx, hr⟩ := rp r _ e
  simp only [ObRep] at hr; subst hr
  exact ⟨_, h, w, by simp [Go.getObj, Sem.run, hx], hk, rp, .refl h w⟩
theorem nextMOp_sound {it : Value} {t : TypeId} (e : nextMOp it h k) : SemA P (Instr.next it false t) h k := by
  unfold nextMOp at e; split at e
  · rename_i r
    split at e
    · rename_i m since seen last hr
      obtain ⟨es, c, hm, e⟩ := mapK_elim e
      obtain ⟨hc, e1, e2⟩ := chk_elim e
      simp only [Bool.and_eq_true, List.all_eq_true, decide_eq_true_eq] at hc
      obtain ⟨hold, hsc⟩ := hc
      intro w rp
      obtain ⟨x, hx, hxr⟩ := rp r _ hr
      simp only [ObRep] at hxr; subst hxr
      obtain ⟨y, hy, hyr⟩ := rp m _ hm
      simp only [ObRep] at hyr; subst hyr
      have hlr : r < w.heap.size := rp.lt hr
      have hleft : (leftOf es.toArray seen.toArray).toList = leftL es seen := by simp [leftOf, leftL]
      rcases run_next_at (P := P) w t r m since last seen.toArray es.toArray c hx hy (fun x hx => hold x (by simpa using hx)) hsc with ⟨h0, h1⟩ | ⟨e, he, w1, hw1, h1⟩
      · refine ⟨_, h, w, h1, e1 ?_, rp, .refl h w⟩
        rw [← hleft]
        exact List.eq_nil_of_length_eq_zero (by simpa using h0)
      · rw [hleft] at he
        have hw : ∃ n, w1 = { w with drawn := n } := by
          rcases hw1 with rfl | rfl
          · exact ⟨w1.drawn, rfl⟩
          · exact ⟨_, rfl⟩
        obtain ⟨n, rfl⟩ := hw
        refine ⟨_, _, _, h1, e2 e he, ?_, ?_⟩
        · exact (rp.drew n).setObj _ (by simp [ObRep]) hlr
        · exact (Ext.drew h w n).trans (.setObj _ hr (by simp [Ob.ro]) _)
    · exact e.elim
  · exact e.elim
def entryMOp (it : Value) (h : Hp) (k : Value → Hp → Prop) : Prop :=
  match it with
  | .pointer (some ⟨r, 0, none⟩) => match h r with
    | some (.miter m _ seen last) => mapK h m fun es c => chk (c == last) (optK seen.getLast? fun st => optK (es.find? (·.born == st)) fun e => k (tup [e.key, e.val]) h)
    | _ => False
  | _ => False
theorem entryMOp_sound {it : Value} (e : entryMOp it h k) : SemA P (Instr.entry it) h k := by
  unfold entryMOp at e; split at e
  · rename_i r
    split at e
    · rename_i m since seen last hr
      obtain ⟨es, c, hm, e⟩ := mapK_elim e
      obtain ⟨hc, e⟩ := chk_elim e
      obtain ⟨st, hst, e⟩ := optK_elim e
      obtain ⟨x, hx, e⟩ := optK_elim e
      have hc : c = last := by simpa using hc
      refine .bind (.getMiter hr ?_)
      dsimp only
      have hb : seen.toArray.back? = some st := by simpa using hst
      rw [hb]
      dsimp only
      refine .bind (.getMap hm ?_)
      dsimp only
      have hx' : es.toArray.find? (·.born == st) = some x := by simpa using hx
      rw [if_neg (by simp [hc]), hx']
      exact .pure e
    · exact e.elim
  · exact e.elim
def convQ (P : Program) (s d : TypeId) (x : Value) (h : Hp) (k : Value → Hp → Prop) : Prop :=
  match P.underlying s, P.underlying d with
  | some (.int _), some (.int q) => convIntK q x fun v => k v h
  | some .string, some .string => strK x fun s => k (.string s) h
  | some (.slice el), some .string => match P.underlying el with
    | some (.int .u8) => bytesStrK x h fun v => k v h
    | _ => False
  | _, _ => False
theorem convQ_sound {s d : TypeId} {x : Value} (e : convQ P s d x h k) : QA P (convert s d x) h fun v => k v h := by
  unfold convQ at e; split at e
  · rename_i q' q hs hd
    obtain ⟨q2, n, rfl, e⟩ := intK_elim e
    exact .bind (.underlying hs (.bind (.underlying hd (.pure e))))
  · rename_i hs hd
    obtain ⟨s, rfl, e⟩ := strK_elim e
    exact .bind (.underlying hs (.bind (.underlying hd (.pure e))))
  · rename_i el hs hd
    split at e
    · rename_i he
      refine .bind (.underlying hs (.bind (.underlying hd ?_)))
      have hx : ∃ a n c, x = .slice a n c := by
        unfold bytesStrK at e; split at e
        · exact ⟨_, _, _, rfl⟩
        · exact ⟨_, _, _, rfl⟩
        · exact e.elim
      obtain ⟨a, n, c, rfl⟩ := hx
      exact .bind (.underlying he (bytesStrK_sound e))
    · exact e.elim
  · exact e.elim
def convA (P : Program) (s d : TypeId) (x : Value) (h : Hp) (k : Value → Hp → Prop) : Prop :=
  match P.underlying s, P.underlying d with
  | some .string, some (.slice el) => match P.underlying el with
    | some (.int .u8) => strK x fun s => strBytesK s h k
    | _ => False
  | some (.slice _), some (.slice el) => match P.underlying el with
    | some (.int .u8) => chk (s == d) (match x with
      | .slice (some ⟨b, o, none⟩) n c => wcellsK h b fun cs => k (.slice (some ⟨b, o, none⟩) n c) (upd h b (.cells cs false))
      | _ => False)
    | _ => False
  | _, _ => False
/-- A row that is marked as a string's: it is only read from then on. -/
theorem SemA.markStringish {b o : Nat} {cs : List Value} {k : Unit → Hp → Prop} (e : h b = some (.cells cs true)) (hk : k () (upd h b (.cells cs false))) : SemA P (Go.markStringish ⟨b, o, none⟩) h k := by
  intro w r
  obtain ⟨x, hx, T, fr, rfl, _⟩ := r b _ e
  have hsh : w.shape? b = some (T, cs.length) := by
    show (match w.heap[b]? with | some (.cells c elem _) => some (elem, c.size) | _ => none) = _
    rw [hx]; simp
  refine ⟨(), _, w.freeze ⟨b, cs.length, none⟩ 1, ?_, hk, ?_, ?_⟩
  · simp only [Go.markStringish, Sem.run_bind, run_shape, hsh, Result.andThen_ok, run_freeze]
  · intro y o' hy
    simp only [upd] at hy
    split at hy
    · rename_i hyb; cases hy; subst hyb
      obtain ⟨lo, hi⟩ := fr
      refine ⟨.cells cs.toArray T (if lo == hi then (cs.length, cs.length + 1) else (min lo cs.length, max hi (cs.length + 1))), ?_, T, _, rfl, fun h => by cases h⟩
      show (w.heap.modify y _)[y]? = _
      rw [Array.getElem?_modify, if_pos rfl, hx]; rfl
    · rename_i hyb
      obtain ⟨z, hz, hr⟩ := r y o' hy
      refine ⟨z, ?_, hr⟩
      show (w.heap.modify b _)[y]? = _
      rw [Array.getElem?_modify, if_neg (Ne.symm hyb)]; exact hz
  · refine ⟨by show _ ≤ (w.heap.modify b _).size; simp, fun y hy hr => ?_, fun y o' hy => ?_, fun y o1 o2 hy e1 e2 e3 => ?_, rfl, rfl, rfl⟩
    · by_cases hyb : b = y
      · subst hyb; exact absurd (hr _ e) (by simp [Ob.ro])
      · show (w.heap.modify b _)[y]? = _
        rw [Array.getElem?_modify, if_neg hyb]
    · simp only [upd] at hy
      split at hy
      · rename_i hyb; exact .inl (by rw [hyb, e]; simp)
      · exact .inl (by rw [hy]; simp)
    · by_cases hyb : y = b
      · subst hyb; rw [e] at e1; cases e1; exact absurd e2 (by simp [Ob.ro])
      · rw [upd_other h _ hyb, e1] at e3; cases e3; exact e2
theorem convA_sound {s d : TypeId} {x : Value} (e : convA P s d x h k) : SemA P (convert s d x) h k := by
  unfold convA at e; split at e
  · rename_i el hs hd
    split at e
    · rename_i he
      obtain ⟨s, rfl, e⟩ := strK_elim e
      exact .bind (.underlying hs (.bind (.underlying hd (.bind (.underlying he (strBytesK_sound e))))))
    · exact e.elim
  · rename_i el' el hs hd
    split at e
    · rename_i he
      obtain ⟨hc, e⟩ := chk_elim e
      split at e
      · rename_i b o n c
        obtain ⟨cs, hb, e⟩ := wcellsK_elim e
        refine .bind (.underlying hs (.bind (.underlying hd (.bind (.underlying he ?_)))))
        rw [hc]
        exact .bind (.markStringish hb (.pure e))
      · exact e.elim
    · exact e.elim
  · exact e.elim
/-- Which conversions make memory. -/
def convMakes (P : Program) (s d : TypeId) : Bool := match P.underlying s, P.underlying d with | some .string, some (.slice _) => true | some (.slice _), some (.slice _) => true | _, _ => false
end
end Go.Sl
/-
  Part 9: one operation over an environment: what the slots of a call hold, as far as it is known.
-/
namespace Go.Sl
open Go
abbrev Env := List (Option Value)
/-- What an environment says of a call's slots is so. -/
structure EnvOk (e : Env) (t : Array Value) : Prop where
  len : e.length = t.size
  get : ∀ (i : Nat) (v : Value), e[i]? = some (some v) → t[i]? = some v
def putE (e : Env) (d : Option Tmp) (v : Value) : Env := match d with | some d => e.set d (some v) | none => e
theorem EnvOk.put {e : Env} {a : Act} (h : EnvOk e a.tmps) (d : Option Tmp) (v : Value) : EnvOk (putE e d v) (a.put d v).tmps := by
  cases d with
  | none => exact h
  | some d =>
    refine ⟨by simp [putE, Act.put, h.len], fun i x hx => ?_⟩
    simp only [putE, Act.put] at hx ⊢
    rw [List.getElem?_set] at hx
    rw [Array.getElem?_setIfInBounds]
    split at hx
    · rename_i hd; subst hd
      split at hx
      · rename_i hl; cases hx; rw [if_pos rfl, if_pos (by rw [← h.len]; exact hl)]
      · cases hx
    · rename_i hd; rw [if_neg hd]; exact h.get i x hx
def getK (e : Env) (x : Operand) (k : Value → Prop) : Prop :=
  match x with
  | .tmp t => match e[t]? with
    | some (some v) => k v
    | _ => False
  | .const v => k v
  | .global g => k (ptr g 0)
  | .func f => k (.func (.func f) #[] #[])
theorem getK_elim {e : Env} {a : Act} (h : EnvOk e a.tmps) {x : Operand} {k : Value → Prop} (hk : getK e x k) : k (a.eval x) := by
  cases x with
  | tmp t =>
    unfold getK at hk
    dsimp only at hk
    split at hk
    · rename_i v hv
      have : a.eval (.tmp t) = v := by
        have := h.get t v hv
        simp [Act.eval, this]
      rw [this]; exact hk
    · exact hk.elim
  | const v => exact hk
  | global g => exact hk
  | func f => exact hk
def argsK (e : Env) : List Operand → (List Value → Prop) → Prop
  | [], k => k []
  | x :: l, k => getK e x fun v => argsK e l fun vs => k (v :: vs)
theorem argsK_elim {e : Env} {a : Act} (h : EnvOk e a.tmps) : ∀ (l : List Operand) {k : List Value → Prop}, argsK e l k → k (l.map a.eval) := by
  intro l
  induction l with
  | nil => intro k hk; exact hk
  | cons x l ih => intro k hk; exact ih (getK_elim h hk)
def partsK (e : Env) : List (Nat × Operand) → (List (Nat × Value) → Prop) → Prop
  | [], k => k []
  | (i, x) :: l, k => getK e x fun v => partsK e l fun vs => k ((i, v) :: vs)
theorem partsK_elim {e : Env} {a : Act} (h : EnvOk e a.tmps) : ∀ (l : List (Nat × Operand)) {k : List (Nat × Value) → Prop}, partsK e l k → k (l.map fun (i, x) => (i, a.eval x)) := by
  intro l
  induction l with
  | nil => intro k hk; exact hk
  | cons x l ih => obtain ⟨i, x⟩ := x; intro k hk; exact ih (getK_elim h hk)
def optGK (e : Env) : Option Operand → (Option Value → Prop) → Prop
  | none, k => k none
  | some x, k => getK e x fun v => k (some v)
theorem optGK_elim {e : Env} {a : Act} (h : EnvOk e a.tmps) {x : Option Operand} {k : Option Value → Prop} (hk : optGK e x k) : k (x.map a.eval) := by
  cases x with
  | none => exact hk
  | some x => exact getK_elim (k := fun v => k (some v)) h hk

section
variable {P : Program} {h : Hp}
def builtinQ (P : Program) (b : Builtin) (ts : List TypeId) (args : List Value) (h : Hp) (k : Value → Prop) : Prop :=
  match b, ts, args with
  | .len, t :: _, [x] => lenOp P t x h fun v _ => k v
  | .max, _, [x, y] => mm2K true x y k
  | .min, _, [x, y] => mm2K false x y k
  | _, _, _ => False
def builtinE (P : Program) (b : Builtin) (ts : List TypeId) (args : List Value) (h : Hp) (k : Value → Hp → Prop) : Prop :=
  match b, ts, args with
  | .append, t :: xt :: _, [s, x] => appendOp P t xt s x h k
  | .copy, t :: _, [d, x] => copyOp P t d x h k
  | .clear, t :: _, [x] => clearOp P t x h k
  | _, _, _ => False
theorem builtinQ_sound {b : Builtin} {ts : Array TypeId} {ty : TypeId} {cs : Array Bool} {args : List Value} {k : Value → Prop} (e : builtinQ P b ts.toList args h k) :
    QA P (builtin b ts ty cs args.toArray) h (fun r => ∃ v, r = .value v ∧ k v) := by
  have lift : ∀ {s : Sem Value}, QA P s h k → QA P (do pure (Next.value (← s))) h (fun r => ∃ v, r = .value v ∧ k v) :=
    fun hs => .bind (hs.mono fun v hk => .pure ⟨v, rfl, hk⟩)
  unfold builtinQ at e
  split at e
  · rename_i t ts' x hts
    exact lift (lenOp_sound (k := fun v _ => k v) (by rw [← Array.getElem?_toList, hts]; rfl) e)
  · exact lift (max_sound (k := fun v _ => k v) e)
  · exact lift (min_sound (k := fun v _ => k v) e)
  · exact e.elim
theorem builtinE_sound {b : Builtin} {ts : Array TypeId} {ty : TypeId} {cs : Array Bool} {args : List Value} {k : Value → Hp → Prop} (e : builtinE P b ts.toList args h k) :
    SemA P (builtin b ts ty cs args.toArray) h (fun r h' => ∃ v, (r = .value v ∨ r = .skip ∧ v = undef) ∧ k v h') := by
  have lift : ∀ {s : Sem Value}, SemA P s h k → SemA P (do pure (Next.value (← s))) h (fun r h' => ∃ v, (r = .value v ∨ r = .skip ∧ v = undef) ∧ k v h') :=
    fun hs => .bind (SemA.mono hs fun v h' hk => .pure ⟨v, .inl rfl, hk⟩)
  unfold builtinE at e
  split at e
  · rename_i t xt ts' s x hts
    exact lift (appendOp_sound (by rw [← Array.getElem?_toList, hts]; rfl) (by rw [← Array.getElem?_toList, hts]; rfl) e)
  · rename_i t ts' d x hts
    exact lift (copyOp_sound (by rw [← Array.getElem?_toList, hts]; rfl) e)
  · rename_i t ts' x hts
    exact lift (clearOp_sound (by rw [← Array.getElem?_toList, hts]; rfl) e)
  · exact e.elim

/-- The operations that only read. -/
def quietOp (P : Program) (o : Oper) : Bool :=
  match o.op with
  | .move _ | .pick _ _ _ | .build _ _ | .load _ _ | .nilCheck _ | .binOp _ _ _ _ _ | .unOp _ _ _ | .sliceToArrayPointer _ _ | .makeInterface _ _ | .makeFunc _ _ _ | .slice _ _ _ _ _
  | .fieldAddr _ _ _ | .field _ _ _ | .indexAddr _ _ _ | .index _ _ _ | .lookup _ _ _ _ | .extract _ _ => true
  | .convert s d _ => !(convMakes P s d)
  | .call { callee := .builtin .len, .. } | .call { callee := .builtin .max, .. } | .call { callee := .builtin .min, .. } => true
  | _ => false
def qK (P : Program) (o : Oper) (e : Env) (h : Hp) (k : Value → Prop) : Prop :=
  match o.op with
  | .move x => getK e x k
  | .pick c a b => getK e c fun t => boolK t fun t => match t with | true => getK e a k | false => getK e b k
  | .build t ps => partsK e ps.toList fun ps => buildOp P t ps h fun v _ => k v
  | .load t x => getK e x fun v => loadOp P t v h fun v _ => k v
  | .nilCheck x => getK e x fun v => nilChkOp v h fun v _ => k v
  | .binOp op t x y _ => getK e x fun v => getK e y fun u => binK P op t v u k
  | .unOp op _ x => getK e x fun v => unK op v k
  | .convert s d x => getK e x fun v => convQ P s d v h fun v _ => k v
  | .sliceToArrayPointer t x => getK e x fun v => s2apOp P t v h fun v _ => k v
  | .makeInterface t x => getK e x fun v => mkIfaceOp P t v h fun v _ => k v
  | .makeFunc f xs ys => argsK e xs.toList fun xs => argsK e ys.toList fun ys => k (.func f xs.toArray ys.toArray)
  | .slice t x lo hi mx => getK e x fun v => optGK e lo fun lo => optGK e hi fun hi => optGK e mx fun mx => sliceOp P t v lo hi mx h fun v _ => k v
  | .fieldAddr t x i => getK e x fun v => fieldAddrOp P t v i h fun v _ => k v
  | .field t x i => getK e x fun v => fieldOp P t v i h fun v _ => k v
  | .indexAddr t x i => getK e x fun v => getK e i fun u => indexAddrOp P t v u h fun v _ => k v
  | .index t x i => getK e x fun v => getK e i fun u => indexOp P t v u h fun v _ => k v
  | .lookup t x i ok => getK e x fun v => getK e i fun u => lookupOp P t v u ok h fun v _ => k v
  | .extract x i => getK e x fun v => extractK v i k
  | .call { callee := .builtin b, args, argTypes } => argsK e args.toList fun vs => builtinQ P b argTypes.toList vs h k
  | _ => False
/-- The operations that write or make memory, calls of functions aside; and an assignment to a slot. -/
def eK (P : Program) (o : Oper) (e : Env) (h : Hp) (k : Value → Hp → Prop) : Prop :=
  match o.op with
  | .assign x => getK e x fun v => k v h
  | .alloc t => allocOp P t h k
  | .box _ x => getK e x fun v => boxOp v h k
  | .buildSlice t n ps => partsK e ps.toList fun ps => buildSliceOp P t n ps h k
  | .store t x y => getK e x fun v => getK e y fun u => storeOp P t v u h k
  | .makeMap _ none => mkMapOp h k
  | .makeSlice t x y => getK e x fun v => getK e y fun u => mkSliceOp P t v u h k
  | .mapUpdate t m i x | .insert t m i x => getK e m fun m => getK e i fun i => getK e x fun x => mapUpdOp P t m i x h k
  | .mapEntry t m i => getK e m fun m => getK e i fun i => mapEntOp P t m i h k
  | .entryStore _ m i x => getK e m fun m => getK e i fun i => getK e x fun x => entStoreOp m i x h k
  | .range t x => getK e x fun v => rangeOp P t v h k
  | .next x true => getK e x fun v => nextSOp v h k
  | .next x false => getK e x fun v => nextMOp v h k
  | .entry x => getK e x fun v => entryMOp v h k
  | .convert s d x => getK e x fun v => convA P s d v h k
  | .call { callee := .builtin b, args, argTypes } => argsK e args.toList fun vs => builtinE P b argTypes.toList vs h k
  | _ => False
def opK (P : Program) (o : Oper) (e : Env) (h : Hp) (k : Value → Hp → Prop) : Prop :=
  match quietOp P o with
  | true => qK P o e h fun v => k v h
  | false => eK P o e h k
theorem qK_sound {o : Oper} {e : Env} {a : Act} (hE : EnvOk e a.tmps) {k : Value → Prop} (hk : qK P o e h k) :
    QA P (execOp a.eval o) h (fun r => ∃ v, r = .value v ∧ k v) := by
  have lift : ∀ {s : Sem Value}, QA P s h k → QA P (do pure (Next.value (← s))) h (fun r => ∃ v, r = .value v ∧ k v) :=
    fun hs => .bind (hs.mono fun v hk => .pure ⟨v, rfl, hk⟩)
  unfold qK at hk
  split at hk <;> rename_i hop <;> try (exact hk.elim)
  · unfold execOp; rw [hop]; exact .pure ⟨_, rfl, getK_elim hE hk⟩
  · have hk := getK_elim hE hk
    obtain ⟨b, hb, hk⟩ := boolK_elim hk
    unfold execOp; rw [hop]; dsimp only
    rw [hb]
    refine .bind (.pure (.pure ?_))
    cases b
    · exact ⟨_, rfl, getK_elim hE hk⟩
    · exact ⟨_, rfl, getK_elim hE hk⟩
  · unfold execOp; rw [hop]; exact lift (buildOp_sound (k := fun v _ => k v) (by rw [Array.toList_map]; exact partsK_elim hE _ hk))
  · unfold execOp; rw [hop]; exact lift (loadOp_sound (k := fun v _ => k v) (getK_elim hE hk))
  · exact nilChkOp_sound (k := fun v _ => k v) hop (getK_elim hE hk)
  · unfold execOp; rw [hop]; exact lift (binK_sound (k := fun v _ => k v) (getK_elim hE (getK_elim (k := fun v => getK e _ fun u => _) hE hk)))
  · unfold execOp; rw [hop]; exact lift (unK_sound (k := fun v _ => k v) (getK_elim hE hk))
  · unfold execOp; rw [hop]; exact lift (convQ_sound (k := fun v _ => k v) (getK_elim hE hk))
  · unfold execOp; rw [hop]; exact lift (s2apOp_sound (k := fun v _ => k v) (getK_elim hE hk))
  · unfold execOp; rw [hop]; exact lift (mkIfaceOp_sound (k := fun v _ => k v) (getK_elim hE hk))
  · unfold execOp; rw [hop]
    have hk := argsK_elim hE _ (argsK_elim hE _ hk)
    refine lift (.pure ?_)
    rw [← Array.toList_map, ← Array.toList_map, Array.toArray_toList, Array.toArray_toList] at hk
    exact hk
  · unfold execOp; rw [hop]
    exact lift (sliceOp_sound (k := fun v _ => k v) (optGK_elim hE (optGK_elim (k := fun hi => optGK e _ fun mx => _) hE (optGK_elim (k := fun lo => optGK e _ fun hi => _) hE (getK_elim (k := fun v => optGK e _ fun lo => _) hE hk)))))
  · unfold execOp; rw [hop]; exact lift (fieldAddrOp_sound (k := fun v _ => k v) (getK_elim hE hk))
  · unfold execOp; rw [hop]; exact lift (fieldOp_sound (k := fun v _ => k v) (getK_elim hE hk))
  · unfold execOp; rw [hop]; exact lift (indexAddrOp_sound (k := fun v _ => k v) (getK_elim hE (getK_elim (k := fun v => getK e _ fun u => _) hE hk)))
  · unfold execOp; rw [hop]; exact lift (indexOp_sound (k := fun v _ => k v) (getK_elim hE (getK_elim (k := fun v => getK e _ fun u => _) hE hk)))
  · unfold execOp; rw [hop]; exact lift (lookupOp_sound (k := fun v _ => k v) (getK_elim hE (getK_elim (k := fun v => getK e _ fun u => _) hE hk)))
  · unfold execOp; rw [hop]; exact lift (extractK_sound (k := fun v _ => k v) (getK_elim hE hk))
  · unfold execOp; rw [hop]
    have hk := argsK_elim hE _ hk
    refine .bind (.pure ?_)
    dsimp only [invoke]
    rw [show (Array.map a.eval _) = (List.map a.eval (Array.toList _)).toArray by rw [← Array.toList_map]]
    exact builtinQ_sound hk
theorem eK_sound {o : Oper} {e : Env} {a : Act} (hE : EnvOk e a.tmps) {k : Value → Hp → Prop} (hk : eK P o e h k) :
    SemA P (execOp a.eval o) h (fun r h' => ∃ v, (r = .value v ∨ r = .skip ∧ v = undef) ∧ k v h') := by
  have lift : ∀ {s : Sem Value}, SemA P s h k → SemA P (do pure (Next.value (← s))) h (fun r h' => ∃ v, (r = .value v ∨ r = .skip ∧ v = undef) ∧ k v h') :=
    fun hs => .bind (SemA.mono hs fun v h' hk => .pure ⟨v, .inl rfl, hk⟩)
  have liftU : ∀ {s : Sem Unit}, SemA P (do s; pure Next.skip) h (fun _ h' => k undef h') → SemA P (do s; pure Next.skip) h (fun r h' => ∃ v, (r = .value v ∨ r = .skip ∧ v = undef) ∧ k v h') := by
    intro s hs w rp
    obtain ⟨r, h', w', e1, e2, e3, e4⟩ := hs w rp
    refine ⟨r, h', w', e1, ⟨undef, .inr ⟨?_, rfl⟩, e2⟩, e3, e4⟩
    rw [Sem.run_bind] at e1
    cases hr : s.run P w with
    | ok u w1 => rw [hr] at e1; cases e1; rfl
    | halt x w1 => rw [hr] at e1; cases e1
  unfold eK at hk
  split at hk <;> rename_i hop <;> try (exact hk.elim)
  · unfold execOp; rw [hop]; exact .pure ⟨_, .inl rfl, getK_elim hE hk⟩
  · unfold execOp; rw [hop]; exact lift (allocOp_sound hk)
  · unfold execOp; rw [hop]; exact lift (boxOp_sound (getK_elim hE hk))
  · unfold execOp; rw [hop]; exact lift (buildSliceOp_sound (by rw [Array.toList_map]; exact partsK_elim hE _ hk))
  · unfold execOp; rw [hop]; exact liftU (storeOp_sound (getK_elim hE (getK_elim (k := fun v => getK e _ fun u => _) hE hk)))
  · unfold execOp; rw [hop]; exact lift (mkMapOp_sound hk)
  · unfold execOp; rw [hop]; exact lift (mkSliceOp_sound (getK_elim hE (getK_elim (k := fun v => getK e _ fun u => _) hE hk)))
  · unfold execOp; rw [hop]; exact liftU (mapUpdOp_sound (getK_elim hE (getK_elim (k := fun v => getK e _ fun u => _) hE (getK_elim (k := fun v => getK e _ fun u => _) hE hk))))
  · unfold execOp; rw [hop]; exact liftU (mapUpdOp_sound (getK_elim hE (getK_elim (k := fun v => getK e _ fun u => _) hE (getK_elim (k := fun v => getK e _ fun u => _) hE hk))))
  · unfold execOp; rw [hop]; exact lift (mapEntOp_sound (getK_elim hE (getK_elim (k := fun v => getK e _ fun u => _) hE hk)))
  · unfold execOp; rw [hop]; exact liftU (entStoreOp_sound (getK_elim hE (getK_elim (k := fun v => getK e _ fun u => _) hE (getK_elim (k := fun v => getK e _ fun u => _) hE hk))))
  · unfold execOp; rw [hop]; exact lift (rangeOp_sound (getK_elim hE hk))
  · unfold execOp; rw [hop]; exact lift (nextSOp_sound (getK_elim hE hk))
  · unfold execOp; rw [hop]; exact lift (nextMOp_sound (getK_elim hE hk))
  · unfold execOp; rw [hop]; exact lift (entryMOp_sound (getK_elim hE hk))
  · unfold execOp; rw [hop]; exact lift (convA_sound (getK_elim hE hk))
  · unfold execOp; rw [hop]
    have hk := argsK_elim hE _ hk
    refine .bind (.pure ?_)
    dsimp only [invoke]
    rw [show (Array.map a.eval _) = (List.map a.eval (Array.toList _)).toArray by rw [← Array.toList_map]]
    exact builtinE_sound hk
theorem opK_sound {o : Oper} {e : Env} {a : Act} (hE : EnvOk e a.tmps) {k : Value → Hp → Prop} (hk : opK P o e h k) :
    SemA P (execOp a.eval o) h (fun r h' => ∃ v, (r = .value v ∨ r = .skip ∧ v = undef) ∧ k v h') := by
  unfold opK at hk
  split at hk
  · exact ((qK_sound hE hk).mono fun r ⟨v, hr, hv⟩ => ⟨v, .inl hr, hv⟩).sem
  · exact eK_sound hE hk
end
end Go.Sl
/-
  Part 10: calls, regions in the order of the text, code, functions.
-/
namespace Go.Sl
open Go
section
variable {P : Program} {h : Hp}
/-- A call of a function: from each world that fits the heap it returns, with a value and a heap of which k holds; all else is as it was. -/
def CallA (P : Program) (i : FuncId) (args : List Value) (h : Hp) (k : Value → Hp → Prop) : Prop :=
  ∀ w, Rep h w → Calls P i args.toArray w fun e w' => ∃ v h', e = .returned v ∧ k v h' ∧ Rep h' w' ∧ Ext h w h' w'
theorem CallA.mono {i : FuncId} {args : List Value} {k k' : Value → Hp → Prop} (c : CallA P i args h k) (hk : ∀ v h', k v h' → k' v h') : CallA P i args h k' :=
  fun w r => (c w r).mono fun _ _ ⟨v, h', e, e1, e2, e3⟩ => ⟨v, h', e, hk _ _ e1, e2, e3⟩
def fnOk (P : Program) (i : FuncId) : Bool := match P.funcs[i]? with
  | some fn => !(fn.name == "runtime.NumGoroutine") && fn.body.isSome
  | none => false
theorem callFunc_run {i : FuncId} (hi : fnOk P i = true) (args : Array Value) (w : World) : (callFunc i args).run P w = .ok (.enter i args) w := by
  unfold fnOk at hi
  split at hi
  · rename_i fn hf
    simp only [Bool.and_eq_true, Bool.not_eq_true'] at hi
    unfold callFunc
    rw [Sem.run_bind, run_program, Result.andThen_ok, hf]
    dsimp only
    have hb : fn.body.isNone = false := by cases hx : fn.body with | none => rw [hx] at hi; exact absurd hi.2 (by simp) | some b => rfl
    simp only [hi.1, hb, Bool.false_eq_true, if_false]
    rfl
  · cases hi
def methOf (P : Program) (t : TypeId) (name : String) : Option FuncId :=
  match P.info? t, P.underlying t with
  | some i, some (.pointer _) => match i.methods.find? (·.name == name) with
    | some m => match m.path.toList, m.func with
      | [], some (f, true) => some f
      | _, _ => none
    | none => none
  | _, _ => none
theorem method_run {t : TypeId} {name : String} {f : FuncId} (hm : methOf P t name = some f) (n : Nat) (v : Value) (w : World) : (method (n + 1) t v name).run P w = .ok (f, v) w := by
  unfold methOf at hm
  split at hm
  · rename_i i el hi hu
    split at hm
    · rename_i m hf
      split at hm
      · rename_i g hp hg
        cases hm
        unfold method
        rw [Sem.run_bind, show (typeInfo t).run P w = .ok i w by simp [Go.typeInfo, hi]]
        simp only [Result.andThen_ok, hf, hp, follow]
        rw [Sem.run_bind, Sem.run_pure]
        simp only [Result.andThen_ok, hg]
        rw [Sem.run_bind]
        unfold receiverAt
        rw [Sem.run_bind, run_underlying hu]
        rfl
      · cases hm
    · cases hm
  · cases hm
/-- A call as a region makes it: a function of Go is entered; one without a body answers at once. -/
def EnterA (P : Program) (i : FuncId) (args : List Value) (h : Hp) (k : Value → Hp → Prop) : Prop :=
  (fnOk P i = true ∧ CallA P i args h k) ∨ ∃ v, (∀ w, (callFunc i args.toArray).run P w = .ok (.value v) w) ∧ k v h
def callK (P : Program) (c : Call) (e : Env) (h : Hp) (k : Value → Hp → Prop) : Prop :=
  match c.callee with
  | .value f => getK e f fun fv => match fv with
    | .func (.func i) xs ys => argsK e c.args.toList fun vs => EnterA P i (xs.toList ++ vs ++ ys.toList) h k
    | _ => False
  | .invoke r name => getK e r fun rv => match rv with
    | .iface t v => argsK e c.args.toList fun vs => optK (methOf P t name) fun i => EnterA P i (v :: vs) h k
    | _ => False
  | _ => False
def stepV (P : Program) (o : Oper) (e : Env) (h : Hp) (k : Value → Hp → Prop) : Prop :=
  match o.op with
  | .call c => match c.callee with
    | .builtin _ => opK P o e h k
    | _ => callK P c e h k
  | _ => opK P o e h k
def stepA (P : Program) (o : Oper) (e : Env) (h : Hp) (k : Env → Hp → Prop) : Prop := stepV P o e h fun v h => k (putE e o.dst v) h
/-- What is asked of what comes behind a step. -/
def Then (h : Hp) (a : Act) (w : World) (k : Env → Hp → Prop) (K : Act → World → Prop) : Prop :=
  ∀ e' h' a' w', k e' h' → EnvOk e' a'.tmps → a'.defers = a.defers → Rep h' w' → Ext h w h' w' → K a' w'
theorem put_defers (a : Act) (d : Option Tmp) (v : Value) : (a.put d v).defers = a.defers := by cases d <;> rfl
theorem call_wp {o : Oper} {a : Act} {w : World} {K : Act → World → Prop} {Q : Exit → Act → World → Prop} {k : Value → Hp → Prop} {i : FuncId} {args : List Value}
    (hr : Rep h w) (hrun : (execOp a.eval o).run P w = .ok (.enter i args.toArray) w) (hc : CallA P i args h k)
    (hK : ∀ v h' w', k v h' → Rep h' w' → Ext h w h' w' → K (a.put o.dst v) w') : o.wp P a w K Q := by
  unfold Oper.wp
  rw [hrun, Oper.upon_enter]
  refine (hc w hr).mono fun en w' ⟨v, h', he, hk, hr', hx⟩ => ?_
  subst he
  exact hK v h' w' hk hr' hx
theorem enter_wp {o : Oper} {a : Act} {w : World} {K : Act → World → Prop} {Q : Exit → Act → World → Prop} {k : Value → Hp → Prop} {i : FuncId} {args : List Value}
    (hr : Rep h w) (hrun : (execOp a.eval o).run P w = (callFunc i args.toArray).run P w) (hc : EnterA P i args h k)
    (hK : ∀ v h' w', k v h' → Rep h' w' → Ext h w h' w' → K (a.put o.dst v) w') : o.wp P a w K Q := by
  rcases hc with ⟨hi, hc⟩ | ⟨v, hv, hk⟩
  · exact call_wp hr (by rw [hrun, callFunc_run hi]) hc hK
  · unfold Oper.wp
    rw [hrun, hv w]
    exact hK v h w hk hr (.refl h w)
theorem stepV_sound {o : Oper} {e : Env} {a : Act} {w : World} {K : Act → World → Prop} {Q : Exit → Act → World → Prop} {k : Value → Hp → Prop}
    (hs : stepV P o e h k) (hE : EnvOk e a.tmps) (hr : Rep h w) (hK : ∀ v h' w', k v h' → Rep h' w' → Ext h w h' w' → K (a.put o.dst v) w') : o.wp P a w K Q := by
  have plain : opK P o e h k → o.wp P a w K Q := by
    intro hs
    obtain ⟨r, h', w', hrun, ⟨v, hv, hk⟩, hr', hx⟩ := opK_sound hE hs w hr
    unfold Oper.wp
    rw [hrun]
    rcases hv with rfl | ⟨rfl, rfl⟩
    · exact hK _ h' w' hk hr' hx
    · exact hK _ h' w' hk hr' hx
  unfold stepV at hs
  split at hs
  · rename_i c hop
    split at hs
    · exact plain hs
    · unfold callK at hs
      split at hs
      · rename_i f hcal
        have hs := getK_elim hE hs
        split at hs
        · rename_i i xs ys hfv
          have hs := argsK_elim hE _ hs
          have hrun : (execOp a.eval o).run P w = (callFunc i (xs.toList ++ List.map a.eval c.args.toList ++ ys.toList).toArray).run P w := by
            unfold execOp; rw [hop]; dsimp only
            unfold resolve; rw [hcal]; dsimp only
            rw [hfv]
            simp only [Deferred.ofValue, invoke, Sem.run_bind, Sem.run_pure, Result.andThen_ok]
            congr 2
            apply Array.ext'; simp
          exact enter_wp hr hrun hs hK
        · exact hs.elim
      · rename_i r name hcal
        have hs := getK_elim hE hs
        split at hs
        · rename_i t v hrv
          have hs := argsK_elim hE _ hs
          obtain ⟨i, hm, hs⟩ := optK_elim hs
          have hrun : (execOp a.eval o).run P w = (callFunc i (v :: List.map a.eval c.args.toList).toArray).run P w := by
           unfold execOp; rw [hop]; dsimp only
           unfold resolve; rw [hcal]; dsimp only
           rw [hrv]
           rw [Sem.run_bind, Sem.run_pure, Result.andThen_ok]
           dsimp only [invoke]
           have h0 : (#[Value.iface t v] ++ Array.map a.eval c.args)[0]? = some (.iface t v) := by rw [Array.getElem?_append_left (by simp)]; rfl
           rw [h0]
           unfold callMethod
           dsimp only
           rw [Sem.run_bind, run_program, Result.andThen_ok, show P.types.size + Made.depth = (P.types.size + 99) + 1 from rfl, Sem.run_bind, method_run hm, Result.andThen_ok]
           dsimp only
           congr 2
           apply Array.ext'
           rw [Array.toList_append, Array.toList_extract, List.extract_eq_take_drop]
           simp
           rw [List.take_of_length_le (by simp)]
          exact enter_wp hr hrun hs hK
        · exact hs.elim
      · exact hs.elim
  · exact plain hs
theorem stepA_sound {o : Oper} {e : Env} {a : Act} {w : World} {K : Act → World → Prop} {Q : Exit → Act → World → Prop} {k : Env → Hp → Prop}
    (hs : stepA P o e h k) (hE : EnvOk e a.tmps) (hr : Rep h w) (hK : Then h a w k K) : o.wp P a w K Q :=
  stepV_sound hs hE hr fun v h' w' hk hr' hx => hK _ h' _ w' hk (hE.put o.dst v) (put_defers ..) hr' hx

/-- A region in the order of the text. -/
def dstOf (all : Array Oper) (j : Nat) : Option Tmp := (all[j]?).bind (·.dst)
def guardA (want b : Bool) (run skip : Prop) : Prop := match want, b with
  | true, true | false, false => run
  | _, _ => skip
def opsA (P : Program) (all : Array Oper) : List Oper → Env → Hp → (Env → Hp → Prop) → Prop
  | [], e, h, k => k e h
  | o :: os, e, h, k => match o.guard with
    | none => stepA P o e h fun e h => opsA P all os e h k
    | some (j, want) => match dstOf all j with
      | none => False
      | some d => match e[d]? with
        | some (some (.bool b)) => bcase b
            (guardA want true (stepA P o (e.set d (some (.bool true))) h fun e h => opsA P all os e h k) (opsA P all os (putE (e.set d (some (.bool true))) o.dst undef) h k))
            (guardA want false (stepA P o (e.set d (some (.bool false))) h fun e h => opsA P all os e h k) (opsA P all os (putE (e.set d (some (.bool false))) o.dst undef) h k))
        | _ => False
theorem EnvOk.again {e : Env} {t : Array Value} (hE : EnvOk e t) {d : Nat} {v : Value} (hd : e[d]? = some (some v)) : EnvOk (e.set d (some v)) t := by
  refine ⟨by simp [hE.len], fun i x hx => ?_⟩
  rw [List.getElem?_set] at hx
  split at hx
  · rename_i h; subst h
    split at hx
    · cases hx; exact hE.get d v hd
    · cases hx
  · exact hE.get i x hx
theorem opsA_sound {all : Array Oper} {Q : Exit → Act → World → Prop} : ∀ (os : List Oper) (e : Env) (h : Hp) (k : Env → Hp → Prop) (a : Act) (w : World),
    opsA P all os e h k → EnvOk e a.tmps → Rep h w → Then h a w k (Q .normal) → wpList P all Q os a w := by
  intro os
  induction os with
  | nil => intro e h k a w hs hE hr hK; exact hK e h a w hs hE rfl hr (.refl h w)
  | cons o os ih =>
    have step : ∀ (e : Env) (h : Hp) (k : Env → Hp → Prop) (a : Act) (w : World), (stepA P o e h fun e h => opsA P all os e h k) → EnvOk e a.tmps → Rep h w → Then h a w k (Q .normal) →
        o.wp P a w (wpList P all Q os) Q := by
      intro e h k a w hs hE hr hK
      refine stepA_sound hs hE hr fun e' h' a' w' hk hE' hd hr' hx => ih e' h' k a' w' hk hE' hr' fun e2 h2 a2 w2 hk2 hE2 hd2 hr2 hx2 => hK e2 h2 a2 w2 hk2 hE2 (hd2.trans hd) hr2 (hx.trans hx2)
    intro e h k a w hs hE hr hK
    unfold opsA at hs
    unfold wpList
    split at hs
    · rename_i hg
      rw [if_pos (by simp [Region.wanted, hg])]
      exact .inl (step e h k a w hs hE hr hK)
    · rename_i j want hg
      split at hs
      · exact hs.elim
      · rename_i d hd
        split at hs
        · rename_i b hb
          have hy : yielded all a.tmps j = some b := by
            unfold yielded
            unfold dstOf at hd
            rw [hd]
            simp [hE.get d _ hb]
          have hw : Region.wanted o (yielded all a.tmps) = (b == want) := by
            simp only [Region.wanted, hg, hy]
            cases b <;> cases want <;> rfl
          rw [hw]
          have skip : ∀ b', e[d]? = some (some (.bool b')) → opsA P all os (putE (e.set d (some (.bool b'))) o.dst undef) h k → wpList P all Q os (a.put o.dst undef) w := by
            intro b' hb' hs
            exact ih _ h k _ w hs ((hE.again hb').put o.dst undef) hr fun e2 h2 a2 w2 hk2 hE2 hd2 hr2 hx2 => hK e2 h2 a2 w2 hk2 hE2 (hd2.trans (put_defers ..)) hr2 hx2
          cases b <;> cases want <;> simp only [bcase, guardA] at hs
          · exact .inl (step _ h k a w hs (hE.again hb) hr hK)
          · exact skip _ hb hs
          · exact skip _ hb hs
          · exact .inl (step _ h k a w hs (hE.again hb) hr hK)
        · exact hs.elim

/-- A piece of code. -/
def CodeA (P : Program) (c : Code) (e : Env) (h : Hp) (k : Exit → Env → Hp → Prop) : Prop :=
  ∀ a w, EnvOk e a.tmps → Rep h w → ∀ Q : Exit → Act → World → Prop,
    (∀ ex e' h' a' w', k ex e' h' → EnvOk e' a'.tmps → a'.defers = a.defers → Rep h' w' → Ext h w h' w' → Q ex a' w') → c.wp P Q a w
variable {e : Env} {k : Exit → Env → Hp → Prop}
theorem CodeA.mono {c : Code} {k' : Exit → Env → Hp → Prop} (hc : CodeA P c e h k) (hk : ∀ ex e' h', k ex e' h' → k' ex e' h') : CodeA P c e h k' :=
  fun a w hE hr Q hQ => hc a w hE hr Q fun ex e' h' a' w' hk' => hQ ex e' h' a' w' (hk _ _ _ hk')
theorem CodeA.skip (hk : k .normal e h) : CodeA P .skip e h k := fun a w hE hr _ hQ => wp_skip (hQ _ _ _ a w hk hE rfl hr (.refl h w))
theorem CodeA.ret (hk : k .ret e h) : CodeA P .ret e h k := fun a w hE hr _ hQ => wp_ret (hQ _ _ _ a w hk hE rfl hr (.refl h w))
theorem CodeA.exit {id : Nat} (hk : k (.exit id) e h) : CodeA P (.exit id) e h k := fun a w hE hr _ hQ => wp_exit (hQ _ _ _ a w hk hE rfl hr (.refl h w))
def seqQ (P : Program) (y : Code) (k : Exit → Env → Hp → Prop) : Exit → Env → Hp → Prop
  | .normal, e, h => CodeA P y e h k
  | ex, e, h => k ex e h
theorem CodeA.seq {x y : Code} (hx : CodeA P x e h (seqQ P y k)) : CodeA P (.seq x y) e h k := by
  intro a w hE hr Q hQ
  refine wp_seq (hx a w hE hr _ fun ex e' h' a' w' hk hE' hd hr' hxt => ?_)
  cases ex with
  | normal => exact hk a' w' hE' hr' Q fun ex e2 h2 a2 w2 hk2 hE2 hd2 hr2 hx2 => hQ ex e2 h2 a2 w2 hk2 hE2 (hd2.trans hd) hr2 (hxt.trans hx2)
  | _ => exact hQ _ e' h' a' w' hk hE' hd hr' hxt
theorem CodeA.cond {c : Operand} {x y : Code} (hc : getK e c fun v => boolK v fun b => bcase b (CodeA P x e h k) (CodeA P y e h k)) : CodeA P (.cond c x y) e h k := by
  intro a w hE hr Q hQ
  obtain ⟨b, hb, hc⟩ := boolK_elim (getK_elim hE hc)
  refine wp_cond hb ?_
  cases b
  · exact hc a w hE hr Q hQ
  · exact hc a w hE hr Q hQ
def blockQ (id : Nat) (k : Exit → Env → Hp → Prop) : Exit → Env → Hp → Prop
  | .exit i, e, h => bcase (i == id) (k .normal e h) (k (.exit i) e h)
  | ex, e, h => k ex e h
theorem CodeA.block {id : Nat} {c : Code} (hc : CodeA P c e h (blockQ id k)) : CodeA P (.block id c) e h k := by
  intro a w hE hr Q hQ
  refine wp_block (hc a w hE hr _ fun ex e' h' a' w' hk hE' hd hr' hxt => ?_)
  cases ex with
  | exit i =>
    simp only [Exit.inBlock]
    simp only [blockQ] at hk
    by_cases hi : i = id
    · subst hi
      simp only [BEq.rfl, bcase] at hk
      rw [if_pos rfl]; exact hQ _ e' h' a' w' hk hE' hd hr' hxt
    · have : (i == id) = false := by simpa using hi
      rw [this] at hk
      rw [if_neg hi]; exact hQ _ e' h' a' w' hk hE' hd hr' hxt
  | _ => exact hQ _ e' h' a' w' hk hE' hd hr' hxt
theorem CodeA.region {id : Nat} {ops : Array Oper} (hs : opsA P ops ops.toList e h (k .normal)) : CodeA P (.region id ops false) e h k := by
  intro a w hE hr Q hQ
  exact wp_region_list (opsA_sound _ e h _ a w hs hE hr fun e' h' a' w' hk hE' hd hr' hx => hQ _ e' h' a' w' hk hE' hd hr' hx)
def loopQ (I : Env → Hp → Prop) (μ : Env → Hp → Nat) (n : Nat) (k : Exit → Env → Hp → Prop) : Exit → Env → Hp → Prop
  | .normal, e, h => I e h ∧ μ e h < n
  | ex, e, h => k ex e h
theorem CodeA.loop {c : Code} (I : Env → Hp → Prop) (μ : Env → Hp → Nat) (h0 : I e h) (hc : ∀ e h, I e h → CodeA P c e h (loopQ I μ (μ e h) k)) : CodeA P (.loop c) e h k := by
  intro a w hE hr Q hQ b k' cs
  have key : ∀ n e1 h1 a1 w1, μ e1 h1 = n → I e1 h1 → EnvOk e1 a1.tmps → a1.defers = a.defers → Rep h1 w1 → Ext h w h1 w1 →
      ∃ ex a' w', Q ex a' w' ∧ Arrives P (lone (b.at a1 (.code c :: .inLoop c :: k')) cs w1) b k' cs ex a' w' := by
    intro n
    induction n using Nat.strongRecOn with
    | _ n ih =>
      intro e1 h1 a1 w1 hn hI hE1 hd1 hr1 hx1
      let Q' : Exit → Act → World → Prop := fun ex a' w' => match ex with
        | .normal => ∃ e' h', I e' h' ∧ μ e' h' < n ∧ EnvOk e' a'.tmps ∧ a'.defers = a.defers ∧ Rep h' w' ∧ Ext h w h' w'
        | ex => Q ex a' w'
      obtain ⟨ex, a2, w2, hq, harr⟩ := hc e1 h1 hI a1 w1 hE1 hr1 Q' (by
        intro ex e' h' a' w' hk hE' hd' hr' hx'
        cases ex with
        | normal => exact ⟨e', h', hk.1, hn ▸ hk.2, hE', hd'.trans hd1, hr', hx1.trans hx'⟩
        | _ => exact hQ _ e' h' a' w' hk hE' (hd'.trans hd1) hr' (hx1.trans hx')) b (.inLoop c :: k') cs
      cases ex with
      | normal =>
        obtain ⟨e', h', hI', hlt, hE', hd', hr', hx'⟩ := hq
        obtain ⟨ex2, a3, w3, hq3, harr3⟩ := ih _ hlt e' h' a2 w2 rfl hI' hE' hd' hr' hx'
        exact ⟨ex2, a3, w3, hq3, .of_steps (Steps.trans harr (.one step_inLoop)) harr3⟩
      | exit id => exact ⟨_, a2, w2, hq, .pass (x := .inLoop c) rfl (fun _ _ => .inl (by simp)) harr⟩
      | goto l => exact ⟨_, a2, w2, hq, .pass (x := .inLoop c) rfl (fun _ _ => .inl (by simp)) harr⟩
      | ret => exact ⟨_, a2, w2, hq, .pass (x := .inLoop c) rfl (fun _ _ => .inl (by simp)) harr⟩
      | panic ch => exact ⟨_, a2, w2, hq, .pass (x := .inLoop c) rfl (fun _ _ => .inl (by simp)) harr⟩
      | outgrown => exact ⟨_, a2, w2, hq, .pass (x := .inLoop c) rfl (fun _ _ => .inl (by simp)) harr⟩
  obtain ⟨ex, a', w', hq, harr⟩ := key _ e h a w rfl h0 hE rfl hr (.refl h w)
  exact ⟨ex, a', w', hq, .of_steps (.one step_loop) harr⟩
/-- What is known of a slot may be forgotten. -/
theorem CodeA.weaken {c : Code} {e' : Env} (hl : e'.length = e.length) (hs : ∀ (i : Nat) (v : Value), e'[i]? = some (some v) → e[i]? = some (some v)) (hc : CodeA P c e' h k) : CodeA P c e h k :=
  fun a w hE hr Q hQ => hc a w ⟨hl.trans hE.len, fun i v hv => hE.get i v (hs i v hv)⟩ hr Q hQ

-- functions
def resK (P : Program) (e : Env) (h : Hp) : List ResultVar → (List Value → Prop) → Prop
  | [], k => k []
  | .tmp t :: l, k => getK e (.tmp t) fun v => resK P e h l fun vs => k (v :: vs)
  | .cell t ty :: l, k => getK e (.tmp t) fun p => loadOp P ty p h fun v h' => h' = h ∧ resK P e h l fun vs => k (v :: vs)
def oneOf (vs : List Value) : Value := match vs with | [v] => v | vs => tup vs
def resVal (t : Array Value) : ResultVar → Sem Value
  | .tmp x => pure (t.getD x undef)
  | .cell a ty => do loadVar ty (← asAddr (t.getD a undef))
theorem loadOp_run {t : TypeId} {v : Value} {k : Value → Hp → Prop} {w : World} (hr : Rep h w) (e : loadOp P t v h k) :
    ∃ b o x, v = ptr b o ∧ (loadVar t ⟨b, o, none⟩).run P w = .ok x w ∧ k x h := by
  obtain ⟨i, d, hi, hd, e⟩ := tyK_elim e
  have hg' : (isAgg t).run P w = .ok (isAggD d) w := by unfold Go.isAgg; rw [Sem.run_bind, run_underlying hd w]; cases d <;> rfl
  cases hg : isAggD d <;> rw [hg] at e hg'
  · obtain ⟨b, o, rfl, e⟩ := ptrK_elim e
    obtain ⟨c, wr, hb, e⟩ := cellsK_elim e
    obtain ⟨x, hx, e⟩ := nthK_elim e
    refine ⟨b, o, x, rfl, ?_, e⟩
    unfold loadVar
    rw [Sem.run_bind, hg', Result.andThen_ok]
    simp only [Bool.false_eq_true, if_false]
    rw [run_load, hr.cell hb, hx]
  · obtain ⟨b, o, rfl, e⟩ := ptrK_elim e
    obtain ⟨c, wr, hb, e⟩ := cellsK_elim e
    obtain ⟨hc, e⟩ := chk_elim e
    refine ⟨b, o, _, rfl, ?_, e⟩
    unfold loadVar
    rw [Sem.run_bind, hg', Result.andThen_ok]
    simp only [if_true]
    rw [Sem.run_bind, show (Go.sizeOf t).run P w = .ok i.size w by simp [Go.sizeOf, Go.typeInfo, hi], Result.andThen_ok, Sem.run_bind, loadCells_run hr hb (by simpa using hc)]
    rfl
theorem resK_sound {a : Act} {w : World} (hE : EnvOk e a.tmps) (hr : Rep h w) : ∀ (l : List ResultVar) (k : List Value → Prop), resK P e h l k →
    ∃ vs, (l.mapM (resVal a.tmps)).run P w = .ok vs w ∧ k vs := by
  intro l
  induction l with
  | nil => intro k hk; exact ⟨[], rfl, hk⟩
  | cons x l ih =>
    intro k hk
    cases x with
    | tmp t =>
      obtain ⟨vs, hv, hk⟩ := ih _ (getK_elim hE hk)
      refine ⟨_ :: vs, ?_, hk⟩
      rw [List.mapM_cons, Sem.run_bind]
      show ((Sem.run P (pure (a.tmps.getD t undef)) w).andThen _) = _
      rw [Sem.run_pure, Result.andThen_ok, Sem.run_bind, hv]; rfl
    | cell t ty =>
      have hk := getK_elim hE hk
      obtain ⟨b, o, v, hp, hrun, _, hk⟩ := loadOp_run hr hk
      obtain ⟨vs, hv, hk⟩ := ih _ hk
      refine ⟨v :: vs, ?_, hk⟩
      have hp' : a.tmps.getD t undef = ptr b o := hp
      have h1 : (resVal a.tmps (.cell t ty)).run P w = .ok v w := by
        show ((asAddr (a.tmps.getD t undef)).bind fun x => loadVar ty x).run P w = _
        rw [hp']; exact hrun
      rw [List.mapM_cons, Sem.run_bind, h1, Result.andThen_ok, Sem.run_bind, hv]; rfl
theorem CallA.func {i : FuncId} {fn : Func} {c : Code} {args : List Value} {k : Value → Hp → Prop} (hf : P.funcs[i]? = some fn) (hb : fn.body = some c)
    (hc : CodeA P c (args.map some ++ List.replicate (fn.ntmps - args.length) none) h fun ex e h => match ex with
      | .normal | .ret => resK P e h fn.results.toList fun vs => ∃ h', Sub h' h ∧ k (oneOf vs) h'
      | _ => False) : CallA P i args h k := by
  intro w hr
  refine calls_of_wp hf hb ?_
  refine hc _ w ⟨by simp, fun j v hj => ?_⟩ hr _ fun ex e' h' a' w' hk hE' hd hr' hx => ?_
  · rw [List.getElem?_append] at hj
    split at hj
    · rename_i hlt
      simp only [List.length_map] at hlt
      rw [Array.getElem?_append_left (by simpa using hlt)]
      simpa using hj
    · rw [List.getElem?_replicate] at hj
      split at hj
      · cases hj
      · cases hj
  · have fin : (resK P e' h' fn.results.toList fun vs => ∃ h'', Sub h'' h' ∧ k (oneOf vs) h'') → a'.defers = [] ∧ ∃ v, (results fn a'.tmps).run P w' = .ok v w' ∧
        ∃ v' h', Ending.returned v = .returned v' ∧ k v' h' ∧ Rep h' w' ∧ Ext h w h' w' := by
      intro hk
      obtain ⟨vs, hv, h2, hs, hk⟩ := resK_sound hE' hr' _ _ hk
      refine ⟨hd, oneOf vs, ?_, _, h2, rfl, hk, hr'.sub hs, hx.sub hs⟩
      have hres : results fn a'.tmps = (do let vs ← fn.results.mapM (resVal a'.tmps); pure (if h : vs.size = 1 then vs[0] else .tuple vs)) := rfl
      rw [hres, Sem.run_bind, Array.mapM_eq_mapM_toList, Sem.run_map, hv]
      simp only [Result.andThen_ok, Sem.run_pure]
      congr 1
      cases vs with
      | nil => rfl
      | cons v vs => cases vs with
        | nil => rfl
        | cons u vs => simp [oneOf, tup]
    cases ex with
    | normal => exact fin hk
    | ret => exact fin hk
    | _ => exact hk.elim
end
end Go.Sl
/-
  Part 11: a region that draws its order. What only reads is taken first; whatever it read must read the same behind each effect that may come ahead of it.
-/
namespace Go.Sl
open Go
section
variable {P : Program} {ops : Array Oper} {Q : Exit → Act → World → Prop}
def isEff (P : Program) (ops : Array Oper) (j : Nat) : Bool := match ops[j]? with | some o => !(quietOp P o) | none => false
/-- Of each operation, as bits, on which ones it waits, through others too. -/
def maskOf (acc : List Nat) (l : List Edge) : Nat := match l with
  | [] => 0
  | e :: l => match Region.binds .any e with
    | true => (2 ^ e.on ||| acc.getD e.on 0) ||| maskOf acc l
    | false => maskOf acc l
def masks (l : List Oper) (acc : List Nat) : List Nat := match l with
  | [] => acc
  | o :: l => masks l (acc ++ [maskOf acc o.after.toList])
def Closed (ops : Array Oper) (L : Array Bool) : Prop := ∀ (j : Nat) (o : Oper), ops[j]? = some o → L.getD j false = true → ∀ e ∈ o.after, Region.binds .any e = true → L.getD e.on false = true
def Good (ops : Array Oper) (acc : List Nat) : Prop := ∀ (j m : Nat), acc[j]? = some m → ∀ y, m.testBit y = true → ∀ L, Closed ops L → L.getD j false = true → L.getD y false = true
theorem maskOf_bit {acc : List Nat} (hg : Good ops acc) {L : Array Bool} (hL : Closed ops L) : ∀ (l : List Edge), (∀ e ∈ l, Region.binds .any e = true → L.getD e.on false = true) →
    ∀ y, (maskOf acc l).testBit y = true → L.getD y false = true := by
  intro l
  induction l with
  | nil => intro _ y h; simp [maskOf] at h
  | cons e l ih =>
    intro hl y h
    unfold maskOf at h
    split at h
    · rename_i hb
      simp only [Nat.testBit_or, Bool.or_eq_true] at h
      rcases h with (h | h) | h
      · rw [Nat.testBit_two_pow] at h
        simp only [decide_eq_true_eq] at h
        rw [← h]; exact hl e (by simp) hb
      · have hon := hl e (by simp) hb
        cases hm : acc[e.on]? with
        | none => simp [List.getD, hm] at h
        | some m =>
          simp [List.getD, hm] at h
          exact hg _ m hm y h L hL hon
      · exact ih (fun e' he' => hl e' (by simp [he'])) y h
    · exact ih (fun e' he' => hl e' (by simp [he'])) y h
theorem masks_good : ∀ (l : List Oper) (acc : List Nat), (∀ j, l[j]? = ops[acc.length + j]?) → Good ops acc → Good ops (masks l acc) := by
  intro l
  induction l with
  | nil => intro acc _ hg; exact hg
  | cons o l ih =>
    intro acc hl hg
    unfold masks
    refine ih _ (fun j => ?_) ?_
    · have := hl (j + 1)
      simp only [List.length_append, List.length_cons, List.length_nil]
      rw [show acc.length + (0 + 1) + j = acc.length + (j + 1) by omega, ← this]; simp
    · intro j m hm y hy L hL hj
      rw [List.getElem?_append] at hm
      split at hm
      · exact hg j m hm y hy L hL hj
      · rename_i hlt
        have hj0 : j = acc.length := by
          rcases Nat.lt_or_ge (j - acc.length) 1 with h | h
          · omega
          · rw [List.getElem?_eq_none (by simpa using h)] at hm; cases hm
        subst hj0
        simp only [Nat.sub_self, List.getElem?_cons_zero, Option.some.injEq] at hm
        subst hm
        have ho : ops[acc.length]? = some o := by have := hl 0; simpa using this.symm
        exact maskOf_bit hg hL _ (fun e he hb => hL _ o ho hj e (by simpa using he) hb) y hy
theorem good_all : Good ops (masks ops.toList []) := masks_good _ _ (fun j => by simp) (fun j m hm => by simp at hm)
def exempt (P : Program) (ops : Array Oper) (ms : List Nat) (y : Nat) (L : Array Bool) : Bool :=
  (List.range ops.size).any fun j => L.getD j false && isEff P ops j && (ms.getD j 0).testBit y
def YieldsA (P : Program) (ops : Array Oper) (o : Oper) (v : Value) (a : Act) (w : World) : Prop :=
  (Region.wanted o (yielded ops a.tmps) = true ∧ (execOp a.eval o).run P w = .ok (.value v) w) ∨ (Region.wanted o (yielded ops a.tmps) = false ∧ v = undef)
abbrev Taken := List (Nat × Value)
def JOk (P : Program) (ops : Array Oper) (ms : List Nat) (T : Taken) (L : Array Bool) (a : Act) (w : World) : Prop :=
  ∀ y v, (y, v) ∈ T → exempt P ops ms y L = true ∨ ∃ o, ops[y]? = some o ∧ YieldsA P ops o v a w
def wpAnyJ (P : Program) (ops : Array Oper) (ms : List Nat) (Q : Exit → Act → World → Prop) (T : Taken) : Nat → Array Bool → Act → World → Prop
  | 0, L, a, w => JOk P ops ms T L a w ∧ Region.ready .any ops L = [] ∧ Q .normal a w
  | fuel + 1, L, a, w => JOk P ops ms T L a w ∧ (Region.ready .any ops L = [] → Q .normal a w) ∧
      ∀ i ∈ Region.ready .any ops L, wpOp P ops Q i (wpAnyJ P ops ms Q T fuel (L.setIfInBounds i true)) a w
theorem wpAnyJ_any {ms : List Nat} {T : Taken} : ∀ (fuel : Nat) (L : Array Bool) (a : Act) (w : World), wpAnyJ P ops ms Q T fuel L a w → wpAny P .any ops Q fuel L a w := by
  intro fuel
  induction fuel with
  | zero => intro L a w h; exact ⟨h.2.1, h.2.2⟩
  | succ fuel ih => intro L a w h; exact ⟨h.2.1, fun i hi => wpOp_mono (fun a w => ih _ a w) (h.2.2 i hi)⟩
theorem wpAnyJ_ok {ms : List Nat} {T : Taken} {fuel : Nat} {L : Array Bool} {a : Act} {w : World} (h : wpAnyJ P ops ms Q T fuel L a w) : JOk P ops ms T L a w := by
  cases fuel with
  | zero => exact h.1
  | succ n => exact h.1
/-- No panic, no outgrowing is let by. -/
def Still (Q : Exit → Act → World → Prop) : Prop := (∀ c a w, ¬ Q (.panic c) a w) ∧ ∀ a w, ¬ Q .outgrown a w
theorem put_op {j : Nat} {oi oj : Oper} {v : Value} (hS : Still Q) (hj : ops[j]? = some oj) (hap : oi.apart ops oj = true) (hsj : ∀ cs b, oj.op ≠ .select cs b)
    {K : Act → World → Prop} {a : Act} {w : World} (h : wpOp P ops Q j K (a.put oi.dst v) w) : wpOp P ops Q j (fun a' w' => K (a'.put oi.dst v) w') a w := by
  obtain ⟨h1, h2, _⟩ := Oper.apart_spec hap
  unfold wpOp at *
  simp only [hj] at *
  rw [wanted_put oj a oi.dst v h1] at h
  split
  · rename_i hw
    simp only [hw, if_true] at h
    rcases h with h | ⟨_, a0, w0, hq⟩
    case inr => exact absurd hq (hS.2 a0 w0)
    refine .inl ?_
    unfold Oper.wp at *
    rw [execOp_put oj hsj a oi.dst v h1] at h
    generalize (execOp a.eval oj).run P w = r at *
    cases r with
    | ok n w' =>
      cases n <;> simp only [Oper.upon] at h ⊢
      case value u => rw [← Act.put_comm a v u h2]; exact h
      case skip => rw [← Act.put_comm a v undef h2]; exact h
      case defer d => rw [← Act.put_comm _ v undef h2, ← Act.put_defers]; exact h
      case enter f args =>
        refine Calls.mono h fun e w'' he => ?_
        cases e with
        | returned u => dsimp only at he ⊢; rw [← Act.put_comm a v u h2]; exact he
        | panicked c => exact absurd he (hS.1 c _ _)
        | outgrown => obtain ⟨a0, w0, hq⟩ := he; exact absurd hq (hS.2 a0 w0)
      case row row args => exact Rows.mono h fun u w'' he => by rw [← Act.put_comm a v u h2]; exact he
    | halt x w' =>
      cases x <;> simp only [Oper.upon] at h ⊢
      case panic u => exact absurd h (hS.1 _ _ _)
  · rename_i hw
    simp only [hw] at h
    rw [← Act.put_comm a v undef h2]; exact h
theorem yields_op {i : Nat} {o : Oper} {v : Value} {a : Act} {w : World} (hi : ops[i]? = some o) (hy : YieldsA P ops o v a w) {K : Act → World → Prop} (h : K (a.put o.dst v) w) : wpOp P ops Q i K a w := by
  unfold wpOp
  simp only [hi]
  rcases hy with ⟨hw, hv⟩ | ⟨hw, rfl⟩
  · simp only [hw, if_true, Oper.wp, hv, Oper.upon]; exact .inl h
  · simp only [hw, Bool.false_eq_true, if_false]; exact h
def notLook (ops : Array Oper) (y : Nat) (d : Option Tmp) : Bool := match ops[y]?, d with
  | some o, some d => !(o.looksAt ops).contains d
  | _, _ => true
theorem yields_put {y : Nat} {o : Oper} {v u : Value} {a : Act} {w : World} {d : Option Tmp} (hy : ops[y]? = some o) (hs : ∀ cs b, o.op ≠ .select cs b) (hn : notLook ops y d = true) :
    YieldsA P ops o v (a.put d u) w ↔ YieldsA P ops o v a w := by
  have hd : ∀ x, d = some x → x ∉ o.looksAt ops := by
    intro x hx; subst hx
    simpa [notLook, hy] using hn
  unfold YieldsA
  rw [execOp_put o hs a d u hd, wanted_put o a d u hd]
theorem getD_set (L : Array Bool) (i j : Nat) (hi : i < L.size) : (L.setIfInBounds i true).getD j false = (decide (i = j) || L.getD j false) := by
  by_cases hij : i = j
  · subst hij; simp [hi]
  · simp [Array.getElem?_setIfInBounds_ne hij, hij]
theorem exempt_set {ms : List Nat} {y i : Nat} {L : Array Bool} (hi : i < L.size) (hq : isEff P ops i = false) : exempt P ops ms y (L.setIfInBounds i true) = exempt P ops ms y L := by
  unfold exempt
  congr 1
  funext j
  rw [getD_set L i j hi]
  by_cases hij : i = j
  · subst hij; simp [hq]
  · simp [hij]
theorem closed_set {L : Array Bool} (hL : Closed ops L) {j : Nat} (hj : j ∈ Region.ready .any ops L) (hs : j < L.size) : Closed ops (L.setIfInBounds j true) := by
  intro i o ho hi e he hb
  obtain ⟨_, oj, hoj, hall⟩ := mem_ready.1 hj
  rw [getD_set L j i hs] at hi
  rw [getD_set L j e.on hs]
  simp only [Bool.or_eq_true, decide_eq_true_eq] at hi ⊢
  rcases hi with rfl | hi
  · rw [hoj] at ho; cases ho; exact .inr (hall e he hb)
  · exact .inr (hL i o ho hi e he hb)
theorem not_exempt {L : Array Bool} (hL : Closed ops L) {y : Nat} (hy : L.getD y false = false) : exempt P ops (masks ops.toList []) y L = false := by
  cases hx : exempt P ops (masks ops.toList []) y L with
  | false => rfl
  | true =>
    unfold exempt at hx
    rw [List.any_eq_true] at hx
    obtain ⟨j, _, hx⟩ := hx
    simp only [Bool.and_eq_true] at hx
    cases hm : (masks ops.toList [])[j]? with
    | none => simp [List.getD, hm] at hx
    | some m =>
      have hb : m.testBit y = true := by simpa [List.getD, hm] using hx.2
      rw [good_all j m hm y hb L hL hx.1.1] at hy; cases hy
/-- What only reads may be taken first. -/
theorem wpAnyJ_first {i : Nat} {oi : Oper} {v : Value} {T : Taken} (hS : Still Q) (hi : ops[i]? = some oi) (hsel : Region.noSelect ops = true) (hq : isEff P ops i = false)
    (hown : notLook ops i oi.dst = true) (hT : ∀ y u, (y, u) ∈ T → notLook ops y oi.dst = true) :
    ∀ (fuel : Nat) (L : Array Bool) (a : Act) (w : World), L.size = ops.size → Closed ops L →
      (∀ j oj, ops[j]? = some oj → j ≠ i → L.getD j true = false → (∀ e ∈ oj.after, Region.binds .any e = true → e.on ≠ i) → oi.apart ops oj = true) →
      i ∈ Region.ready .any ops L → YieldsA P ops oi v a w → JOk P ops (masks ops.toList []) T L a w →
      wpAnyJ P ops (masks ops.toList []) Q ((i, v) :: T) fuel (L.setIfInBounds i true) (a.put oi.dst v) w → wpAnyJ P ops (masks ops.toList []) Q T (fuel + 1) L a w := by
  have sel : ∀ (j : Nat) (o : Oper), ops[j]? = some o → ∀ cs b, o.op ≠ .select cs b := fun j o ho cs b => Region.noSelect_spec hsel j o cs b ho
  have iL : ∀ {L : Array Bool}, L.size = ops.size → i < L.size := fun h => by rw [h]; exact (Array.getElem?_eq_some_iff.1 hi).1
  -- what is asked of the others, with i listed or not
  have others : ∀ {L : Array Bool} {a : Act} {w : World}, L.size = ops.size → JOk P ops (masks ops.toList []) ((i, v) :: T) (L.setIfInBounds i true) (a.put oi.dst v) w → JOk P ops (masks ops.toList []) T L a w := by
    intro L a w hsz hJ y u hyu
    rcases hJ y u (by simp [hyu]) with h | ⟨o, ho, h⟩
    · exact .inl (by rwa [exempt_set (iL hsz) hq] at h)
    · exact .inr ⟨o, ho, (yields_put ho (sel y o ho) (hT y u hyu)).1 h⟩
  have mine : ∀ {L : Array Bool} {a : Act} {w : World}, L.size = ops.size → Closed ops L → L.getD i false = false → JOk P ops (masks ops.toList []) ((i, v) :: T) (L.setIfInBounds i true) (a.put oi.dst v) w → YieldsA P ops oi v a w := by
    intro L a w hsz hc hni hJ
    rcases hJ i v (by simp) with h | ⟨o, ho, h⟩
    · rw [exempt_set (iL hsz) hq, not_exempt hc hni] at h; cases h
    · rw [hi] at ho; cases ho
      exact (yields_put hi (sel i oi hi) hown).1 h
  have last : ∀ {fuel : Nat} {L : Array Bool} {a : Act} {w : World}, YieldsA P ops oi v a w →
      wpAnyJ P ops (masks ops.toList []) Q ((i, v) :: T) fuel (L.setIfInBounds i true) (a.put oi.dst v) w → L.size = ops.size →
      wpOp P ops Q i (wpAnyJ P ops (masks ops.toList []) Q T fuel (L.setIfInBounds i true)) a w := by
    intro fuel L a w hy H hsz
    refine yields_op hi hy ?_
    -- fewer are asked of
    have less : ∀ (fuel : Nat) (L : Array Bool) (a : Act) (w : World), wpAnyJ P ops (masks ops.toList []) Q ((i, v) :: T) fuel L a w → wpAnyJ P ops (masks ops.toList []) Q T fuel L a w := by
      intro fuel
      induction fuel with
      | zero => intro L a w h; exact ⟨fun y u hyu => h.1 y u (by simp [hyu]), h.2⟩
      | succ fuel ih => intro L a w h; exact ⟨fun y u hyu => h.1 y u (by simp [hyu]), h.2.1, fun j hj => wpOp_mono (fun a w => ih _ a w) (h.2.2 j hj)⟩
    exact less _ _ _ _ H
  intro fuel
  induction fuel with
  | zero =>
    intro L a w hsz hc _ hr hy hJ H
    refine ⟨hJ, fun h => (by rw [h] at hr; cases hr), fun j hj => ?_⟩
    by_cases hji : j = i
    · subst hji; exact last hy H hsz
    · have := ready_mono hj hji
      rw [H.2.1] at this
      cases this
  | succ fuel ih =>
    intro L a w hsz hc hfree hr hy hJ H
    refine ⟨hJ, fun h => (by rw [h] at hr; cases hr), fun j hj => ?_⟩
    by_cases hji : j = i
    · subst hji; exact last hy H hsz
    · have h1 := H.2.2 j (ready_mono hj hji)
      obtain ⟨hjun, oj, hoj, hall⟩ := mem_ready.1 hj
      have hiun : L.getD i false = false := by
        have h0 := (mem_ready.1 hr).1
        have := iL hsz
        simp [this] at h0 ⊢; exact h0
      have hnot : ∀ e ∈ oj.after, Region.binds .any e = true → e.on ≠ i := fun e he hb heq => by
        have h1 := hall e he hb
        rw [heq, hiun] at h1; cases h1
      have hjs : j < L.size := by rw [hsz]; exact (Array.getElem?_eq_some_iff.1 hoj).1
      have h2 := put_op hS hoj (hfree j oj hoj hji hjun hnot) (sel j oj hoj) h1
      have hfree' : ∀ k ok, ops[k]? = some ok → k ≠ i → (L.setIfInBounds j true).getD k true = false →
          (∀ e ∈ ok.after, Region.binds .any e = true → e.on ≠ i) → oi.apart ops ok = true := fun k ok hk hki hun hno => by
        refine hfree k ok hk hki ?_ hno
        by_cases hjk : j = k
        · subst hjk; exact hjun
        · rw [getD_set_ne true hjk] at hun; exact hun
      refine wpOp_mono (fun a' w' h3 => ?_) h2
      rw [Array.setIfInBounds_comm _ _ (Ne.symm hji)] at h3
      have hsz' : (L.setIfInBounds j true).size = ops.size := by simpa using hsz
      have hc' := closed_set hc hj hjs
      have hni' : (L.setIfInBounds j true).getD i false = false := by rw [getD_set L j i hjs, hiun]; simp [hji]
      have hJ3 := wpAnyJ_ok h3
      exact ih (L.setIfInBounds j true) a' w' hsz' hc' hfree' (ready_mono hr (Ne.symm hji)) (mine hsz' hc' hni' hJ3) (others hsz' hJ3) h3
end
end Go.Sl
/-
  Part 12: a region that draws its order, by a plan: what reads is taken first; an effect that stands alone; an effect beside a block that may be made ahead of it or behind it.
-/
namespace Go.Sl
open Go
inductive PS where
  | q (i : Nat)
  | e (i : Nat) (rs : List Nat)
  | p (i l : Nat) (rs0 rs : List Nat)
  | l (i : Nat) (rs : List Nat)
def memN (y : Nat) : List Nat → Bool
  | [] => false
  | a :: l => cond (Nat.beq a y) true (memN y l)
/-- What is not read again needs not be. -/
def rsOk (P : Program) (ops : Array Oper) (ms : List Nat) (T : List Nat) (L : Array Bool) (rs : List Nat) : Bool := T.all fun y => memN y rs || exempt P ops ms y L
section
variable {P : Program} {ops : Array Oper}
def ready (ops : Array Oper) (L : Array Bool) : List Nat := Region.ready .any ops L
def freshOp (o : Oper) : Bool := match o.op, o.guard with
  | .alloc _, none | .box _ _, none | .buildSlice _ _ _, none => true
  | _, _ => false
def qOk (ops : Array Oper) (T : List Nat) (L : Array Bool) (i : Nat) (o : Oper) : Bool :=
  notLook ops i o.dst && T.all (fun y => notLook ops y o.dst) && (ready ops L).contains i && Region.free .any ops L i
def dstNe (x y : Oper) : Bool := match x.dst, y.dst with
  | some a, some b => !(a == b)
  | _, _ => true
def planOk (P : Program) (ops : Array Oper) (ms : List Nat) : List PS → List Nat → Option Nat → Array Bool → Bool
  | [], _, pd, L => pd.isNone && (ready ops L).isEmpty
  | .q i :: s, T, pd, L => match ops[i]? with
    | some o => quietOp P o && qOk ops T L i o &&
        (match pd with
        | some l => (match ops[l]? with | some ol => qOk ops T (L.setIfInBounds l true) i o && dstNe o ol | none => false)
        | none => true) && planOk P ops ms s (i :: T) pd (L.setIfInBounds i true)
    | none => false
  | .e i rs :: s, T, pd, L => pd.isNone && (ready ops L == [i]) && rsOk P ops ms T (L.setIfInBounds i true) rs && planOk P ops ms s T none (L.setIfInBounds i true)
  | .p i l rs0 rs :: s, T, pd, L => rsOk P ops ms T (L.setIfInBounds l true) rs0 && rsOk P ops ms T (L.setIfInBounds i true) rs && (match ops[i]?, ops[l]? with
    | some oi, some ol => freshOp ol && dstNe oi ol
    | _, _ => false) && (pd == none || pd == some l) && (ready ops L == [i, l] || ready ops L == [l, i]) && (ready ops (L.setIfInBounds l true) == [i]) && planOk P ops ms s T (some l) (L.setIfInBounds i true)
  | .l i rs :: s, T, pd, L => rsOk P ops ms T (L.setIfInBounds i true) rs && pd == some i && (ready ops L == [i]) && (match ops[i]? with | some o => freshOp o | none => false) && planOk P ops ms s T none (L.setIfInBounds i true)
def wantK (ops : Array Oper) (o : Oper) (e : Env) (k : Bool → Prop) : Prop := match o.guard with
  | none => k true
  | some (j, want) => match dstOf ops j with
    | none => False
    | some d => match e[d]? with
      | some (some (.bool b)) => k (b == want)
      | some (some (.tuple _)) => k false
      | _ => False
theorem wantK_elim {o : Oper} {e : Env} {a : Act} {k : Bool → Prop} (hE : EnvOk e a.tmps) (hk : wantK ops o e k) : k (Region.wanted o (yielded ops a.tmps)) := by
  unfold wantK at hk
  split at hk
  · rename_i hg; simpa [Region.wanted, hg] using hk
  · rename_i j want hg
    split at hk
    · exact hk.elim
    · rename_i d hd
      split at hk
      · rename_i b hb
        have hy : yielded ops a.tmps j = some b := by
          unfold yielded
          unfold dstOf at hd
          rw [hd]
          simp [hE.get d _ hb]
        have hw : Region.wanted o (yielded ops a.tmps) = (b == want) := by
          simp only [Region.wanted, hg, hy]
          cases b <;> cases want <;> rfl
        rw [hw]; exact hk
      · rename_i vs hb
        have hy : yielded ops a.tmps j = none := by
          unfold yielded
          unfold dstOf at hd
          rw [hd]
          simp [hE.get d _ hb]
        have hw : Region.wanted o (yielded ops a.tmps) = false := by
          simp only [Region.wanted, hg, hy]; rfl
        rw [hw]; exact hk
      · exact hk.elim
def yieldK (P : Program) (ops : Array Oper) (y : Nat) (v : Value) (e : Env) (h : Hp) : Prop := match ops[y]? with
  | none => False
  | some o => wantK ops o e fun b => bcase b (qK P o e h fun u => u = v) (v = undef)
def recheckK (P : Program) (ops : Array Oper) (rs : List Nat) (e : Env) (h : Hp) : Taken → Prop
  | [] => True
  | (y, v) :: T => (match memN y rs with | false => True | true => yieldK P ops y v e h) ∧ recheckK P ops rs e h T
theorem yieldK_sound {y : Nat} {v : Value} {e : Env} {h : Hp} {a : Act} {w : World} (hk : yieldK P ops y v e h) (hE : EnvOk e a.tmps) (hr : Rep h w) : ∃ o, ops[y]? = some o ∧ YieldsA P ops o v a w := by
  unfold yieldK at hk
  split at hk
  · exact hk.elim
  · rename_i o ho
    have hk := wantK_elim hE hk
    refine ⟨o, ho, ?_⟩
    unfold YieldsA
    cases hw : Region.wanted o (yielded ops a.tmps) with
    | true =>
      rw [hw] at hk
      obtain ⟨r, ⟨u, hu, huv⟩, hrun⟩ := qK_sound hE hk
      exact .inl ⟨rfl, by rw [hrun w hr, hu, huv]⟩
    | false =>
      rw [hw] at hk
      exact .inr ⟨rfl, hk⟩
theorem recheckK_sound {ms : List Nat} {L : Array Bool} {rs : List Nat} {e : Env} {h : Hp} {a : Act} {w : World} (hE : EnvOk e a.tmps) (hr : Rep h w) : ∀ {T : Taken}, recheckK P ops rs e h T → rsOk P ops ms (T.map (·.1)) L rs = true → JOk P ops ms T L a w := by
  intro T
  induction T with
  | nil => intro _ _ y v hm; cases hm
  | cons x T ih =>
    obtain ⟨y, v⟩ := x
    intro hk hrs y' v' hm
    simp only [rsOk, List.map_cons, List.all_cons, Bool.and_eq_true, Bool.or_eq_true] at hrs
    rcases List.mem_cons.1 hm with hm | hm
    · cases hm
      have h1 := hk.1
      split at h1
      · rename_i hx
        rcases hrs.1 with h2 | h2
        · rw [hx] at h2; cases h2
        · exact .inl h2
      · exact .inr (yieldK_sound h1 hE hr)
    · exact ih hk.2 hrs.2 y' v' hm
theorem exempt_mono {ms : List Nat} {y : Nat} {L L' : Array Bool} (hL : ∀ j, L.getD j false = true → L'.getD j false = true) (hx : exempt P ops ms y L = true) : exempt P ops ms y L' = true := by
  unfold exempt at *
  rw [List.any_eq_true] at *
  obtain ⟨j, hj, hx⟩ := hx
  simp only [Bool.and_eq_true] at hx
  exact ⟨j, hj, by simp only [Bool.and_eq_true]; exact ⟨⟨hL j hx.1.1, hx.1.2⟩, hx.2⟩⟩
theorem JOk.mono {ms : List Nat} {T : Taken} {L L' : Array Bool} {a : Act} {w : World} (hL : ∀ j, L.getD j false = true → L'.getD j false = true) (hJ : JOk P ops ms T L a w) : JOk P ops ms T L' a w :=
  fun y v hm => (hJ y v hm).imp (exempt_mono hL) id
/-- A block that is made: what stands in it, and the value by the block. -/
def lateK (P : Program) (o : Oper) (e : Env) (kk : List Value → (Nat → Value) → Prop) : Prop := match o.op with
  | .alloc t => zeroK P t fun z => kk z fun b => ptr b 0
  | .box _ x => getK e x fun v => kk (cellsL v) fun b => ptr b 0
  | .buildSlice t n ps => partsK e ps.toList fun ps => sliceTK P t fun el => sizeK P el fun s => zeroK P el fun z => chk (decide (n * s ≤ 16777216) && decide (z.length = s) && decide (0 < s))
    (optK (triples (fun i => some (i * s, s)) ps) fun ts => fillK ts (repL n z) fun c => kk c fun b => .slice (some ⟨b, 0, none⟩) n n)
  | _ => False
theorem getK_mono {e : Env} {x : Operand} {k k' : Value → Prop} (hk : getK e x k) (h : ∀ v, k v → k' v) : getK e x k' := by
  cases x with
  | tmp t =>
    unfold getK at *
    dsimp only at *
    split at hk
    · exact h _ hk
    · exact hk.elim
  | const v => exact h _ hk
  | global g => exact h _ hk
  | func f => exact h _ hk
theorem partsK_mono {e : Env} : ∀ {l : List (Nat × Operand)} {k k' : List (Nat × Value) → Prop}, partsK e l k → (∀ v, k v → k' v) → partsK e l k' := by
  intro l
  induction l with
  | nil => intro k k' hk h; exact h _ hk
  | cons x l ih => obtain ⟨i, x⟩ := x; intro k k' hk h; exact getK_mono hk fun v hv => ih hv fun vs hvs => h _ hvs
theorem fillK_mono : ∀ {ts : List (Nat × Nat × Value)} {c : List Value} {k k' : List Value → Prop}, fillK ts c k → (∀ c, k c → k' c) → fillK ts c k' := by
  intro ts
  induction ts with
  | nil => intro c k k' hk h; exact h _ hk
  | cons x ts ih =>
    obtain ⟨o, s, v⟩ := x
    intro c k k' hk h
    obtain ⟨h1, hk⟩ := chk_elim hk
    exact chk_true h1 (ih hk h)
theorem late_eK {o : Oper} {e : Env} {h : Hp} {kk : List Value → (Nat → Value) → Prop} {K : Value → Hp → Prop} (hl : lateK P o e kk) (hK : ∀ c f, kk c f → newK h c fun b h' => K (f b) h') : eK P o e h K := by
  unfold lateK at hl
  split at hl
  · rename_i t hop
    simp only [eK, hop]
    obtain ⟨i, z, hi, hz, hl⟩ := zeroK_elim hl
    simp only [allocOp, hi, hz]
    exact hK _ _ hl
  · rename_i t x hop
    simp only [eK, hop]
    exact getK_mono hl fun v hv => hK _ _ hv
  · rename_i t n ps hop
    simp only [eK, hop]
    refine partsK_mono hl fun ps hl => ?_
    obtain ⟨el, hu, hl⟩ := sliceTK_elim hl
    obtain ⟨i, hi, hl⟩ := sizeK_elim hl
    obtain ⟨i', z, hi', hz, hl⟩ := zeroK_elim hl
    obtain ⟨hc, hl⟩ := chk_elim hl
    obtain ⟨ts, hts, hl⟩ := optK_elim hl
    rw [hi] at hi'
    cases hi'
    simp only [buildSliceOp, sliceTK, hu, sizeK, hi, zeroK, hz, hts, optK]
    exact chk_true hc (fillK_mono hl fun c hc => hK _ _ hc)
  · exact hl.elim
theorem fresh_step {o : Oper} (hf : freshOp o = true) {e : Env} {h : Hp} {k : Value → Hp → Prop} (hs : eK P o e h k) : stepV P o e h k ∧ o.guard = none := by
  unfold freshOp at hf
  split at hf
  · rename_i hop hg; exact ⟨by simp only [stepV, hop, opK, quietOp]; exact hs, hg⟩
  · rename_i hop hg; exact ⟨by simp only [stepV, hop, opK, quietOp]; exact hs, hg⟩
  · rename_i hop hg; exact ⟨by simp only [stepV, hop, opK, quietOp]; exact hs, hg⟩
  · cases hf
abbrev Pend := Option (Nat × List Value × (Nat → Value))
def effA (P : Program) (ops : Array Oper) (i : Nat) (e : Env) (h : Hp) (K : Value → Hp → Prop) : Prop := match ops[i]? with
  | none => False
  | some o => wantK ops o e fun b => bcase b (stepV P o e h K) (K undef h)
def dstAt (ops : Array Oper) (i : Nat) : Option Tmp := (ops[i]?).bind (·.dst)
theorem effA_sound {i : Nat} {o : Oper} {e : Env} {h : Hp} {K : Value → Hp → Prop} {KK : Act → World → Prop} {Q : Exit → Act → World → Prop} {a : Act} {w : World} (ho : ops[i]? = some o) (hs : effA P ops i e h K) (hE : EnvOk e a.tmps) (hr : Rep h w)
    (hK : ∀ v h' w', K v h' → Rep h' w' → Ext h w h' w' → KK (a.put o.dst v) w') : wpOp P ops Q i KK a w := by
  unfold effA at hs
  rw [ho] at hs
  have hs := wantK_elim hE hs
  unfold wpOp
  simp only [ho]
  cases hw : Region.wanted o (yielded ops a.tmps) with
  | true =>
    rw [hw] at hs
    simp only [if_true]
    exact .inl (stepV_sound hs hE hr hK)
  | false =>
    rw [hw] at hs
    simp only [Bool.false_eq_true, if_false]
    exact hK undef h w hs hr (.refl h w)
def clearE' (e : Env) (d : Option Tmp) : Env := match d with | some d => e.set d none | none => e
theorem EnvOk.clear {e : Env} {t : Array Value} (hE : EnvOk e t) (d : Option Tmp) : EnvOk (clearE' e d) t := by
  cases d with
  | none => exact hE
  | some d =>
    refine ⟨by simp [clearE', hE.len], fun i v hv => ?_⟩
    simp only [clearE'] at hv
    rw [List.getElem?_set] at hv
    split at hv
    · split at hv <;> cases hv
    · exact hE.get i v hv
def sameP (pd : Pend) (c : List Value) (f : Nat → Value) : Prop := match pd with
  | none => True
  | some (_, c', f') => c' = c ∧ f' = f
def dstIn (e : Env) (d : Option Tmp) : Bool := match d with | some d => decide (d < e.length) | none => true
theorem getK_at {e : Env} {x : Operand} {k : Value → Prop} (hk : getK e x k) : ∃ v, k v ∧ ∀ k' : Value → Prop, k' v → getK e x k' := by
  cases x with
  | tmp t =>
    unfold getK at *
    dsimp only at *
    split at hk
    · rename_i v hv; exact ⟨v, hk, fun k' h => by first | exact h | (rw [hv]; exact h)⟩
    · exact hk.elim
  | const v => exact ⟨_, hk, fun _ h => h⟩
  | global g => exact ⟨_, hk, fun _ h => h⟩
  | func f => exact ⟨_, hk, fun _ h => h⟩
theorem partsK_at {e : Env} : ∀ {l : List (Nat × Operand)} {k : List (Nat × Value) → Prop}, partsK e l k → ∃ v, k v ∧ ∀ k' : List (Nat × Value) → Prop, k' v → partsK e l k' := by
  intro l
  induction l with
  | nil => intro k hk; exact ⟨_, hk, fun _ h => h⟩
  | cons x l ih =>
    obtain ⟨i, x⟩ := x
    intro k hk
    obtain ⟨v, hk, h1⟩ := getK_at hk
    obtain ⟨vs, hk, h2⟩ := ih hk
    exact ⟨_, hk, fun k' h => h1 _ (h2 _ h)⟩
theorem fillK_at : ∀ {ts : List (Nat × Nat × Value)} {c : List Value} {k : List Value → Prop}, fillK ts c k → ∃ v, k v ∧ ∀ k' : List Value → Prop, k' v → fillK ts c k' := by
  intro ts
  induction ts with
  | nil => intro c k hk; exact ⟨_, hk, fun _ h => h⟩
  | cons x ts ih =>
    obtain ⟨o, s, v⟩ := x
    intro c k hk
    obtain ⟨h1, hk⟩ := chk_elim hk
    obtain ⟨u, hk, h2⟩ := ih hk
    exact ⟨u, hk, fun k' h => chk_true h1 (h2 _ h)⟩
theorem lateK_at {o : Oper} {e : Env} {kk : List Value → (Nat → Value) → Prop} (hl : lateK P o e kk) : ∃ c f, kk c f ∧ lateK P o e fun c' f' => c' = c ∧ f' = f := by
  unfold lateK at *
  split at hl
  · rename_i t hop
    obtain ⟨i, z, hi, hz, hl⟩ := zeroK_elim hl
    exact ⟨_, _, hl, by unfold zeroK; rw [hi]; dsimp only; rw [hz]; exact ⟨rfl, rfl⟩⟩
  · rename_i t x hop
    obtain ⟨v, hl, h1⟩ := getK_at hl
    exact ⟨_, _, hl, h1 _ ⟨rfl, rfl⟩⟩
  · rename_i t n ps hop
    obtain ⟨vs, hl, h1⟩ := partsK_at hl
    obtain ⟨el, hu, hl⟩ := sliceTK_elim hl
    obtain ⟨i, hi, hl⟩ := sizeK_elim hl
    obtain ⟨i', z, hi', hz, hl⟩ := zeroK_elim hl
    obtain ⟨hc, hl⟩ := chk_elim hl
    obtain ⟨ts, hts, hl⟩ := optK_elim hl
    obtain ⟨c, hl, h2⟩ := fillK_at hl
    refine ⟨_, _, hl, h1 _ ?_⟩
    rw [hi] at hi'
    cases hi'
    unfold sliceTK; rw [hu]; dsimp only
    unfold sizeK; rw [hi]; dsimp only
    unfold zeroK; rw [hi]; dsimp only; rw [hz]; dsimp only
    rw [hts]; dsimp only [optK]
    exact chk_true hc (h2 _ ⟨rfl, rfl⟩)
  · exact hl.elim
def drawA (P : Program) (ops : Array Oper) : List PS → Pend → Taken → Array Bool → Env → Hp → (Env → Hp → Prop) → Prop
  | [], _, _, _, e, h, k => k e h
  | .q i :: s, pd, T, L, e, h, k => match ops[i]? with
    | none => False
    | some o => wantK ops o e fun b => bcase b (qK P o e h fun v => drawA P ops s pd ((i, v) :: T) (L.setIfInBounds i true) (putE e o.dst v) h k)
        (drawA P ops s pd ((i, undef) :: T) (L.setIfInBounds i true) (putE e o.dst undef) h k)
  | .e i rs :: s, pd, T, L, e, h, k => effA P ops i e h fun v h' =>
      recheckK P ops rs (putE e (dstAt ops i) v) h' T ∧ drawA P ops s pd T (L.setIfInBounds i true) (putE e (dstAt ops i) v) h' k
  | .p i l rs0 rs :: s, pd, T, L, e, h, k => match ops[l]? with
    | none => False
    | some ol => lateK P ol e fun c f => dstIn e ol.dst = true ∧ sameP pd c f ∧ recheckK P ops rs0 (clearE' e ol.dst) h T ∧ effA P ops i (clearE' e ol.dst) h fun v h' =>
        recheckK P ops rs (putE (clearE' e ol.dst) (dstAt ops i) v) h' T ∧ drawA P ops s (some (l, c, f)) T (L.setIfInBounds i true) (putE (clearE' e ol.dst) (dstAt ops i) v) h' k
  | .l i rs :: s, pd, T, L, e, h, k => match ops[i]?, pd with
    | some ol, some (_, c, f) => (lateK P ol e fun c' f' => c' = c ∧ f' = f) ∧ newK h c fun b h' =>
        recheckK P ops rs (putE e ol.dst (f b)) h' T ∧ drawA P ops s none T (L.setIfInBounds i true) (putE e ol.dst (f b)) h' k
    | _, _ => False
theorem JOk.push {T : Taken} {L : Array Bool} {a : Act} {w : World} {i : Nat} {o : Oper} {v : Value} {ms : List Nat} (hsel : Region.noSelect ops = true) (hi : ops[i]? = some o) (hq : isEff P ops i = false) (hl : i < L.size)
    (hown : notLook ops i o.dst = true) (hT : ∀ y u, (y, u) ∈ T → notLook ops y o.dst = true) (hy : YieldsA P ops o v a w) (hJ : JOk P ops ms T L a w) : JOk P ops ms ((i, v) :: T) (L.setIfInBounds i true) (a.put o.dst v) w := by
  have sel : ∀ (j : Nat) (o : Oper), ops[j]? = some o → ∀ cs b, o.op ≠ .select cs b := fun j o ho cs b => Region.noSelect_spec hsel j o cs b ho
  intro y u hm
  rcases List.mem_cons.1 hm with hm | hm
  · cases hm
    exact .inr ⟨o, hi, (yields_put hi (sel _ _ hi) hown).2 hy⟩
  · rcases hJ y u hm with h | ⟨o', ho', h⟩
    · exact .inl (by rwa [exempt_set hl hq])
    · exact .inr ⟨o', ho', (yields_put ho' (sel _ _ ho') (hT y u hm)).2 h⟩
theorem getD_mono (L : Array Bool) (i j : Nat) (h : L.getD j false = true) : (L.setIfInBounds i true).getD j false = true := by
  by_cases hij : i = j
  · subst hij
    have : i < L.size := by
      rcases Nat.lt_or_ge i L.size with h1 | h1
      · exact h1
      · simp [Array.getD, Nat.not_lt.2 h1] at h
    rw [getD_set L i i this]; simp
  · rw [getD_set_ne false hij]; exact h
end
end Go.Sl
/-
  Part 13: what a plan shows is so in whatever order the region runs.
-/
namespace Go.Sl
open Go
section
variable {P : Program} {ops : Array Oper}
/-- What is known while a block that was made ahead stands by. -/
structure Early (ops : Array Oper) (w0 : World) (pd : Pend) (e : Env) (h : Hp) (a : Act) (w : World) (l b : Nat) (c : List Value) (f : Nat → Value) (ol : Oper) : Prop where
  pd : pd = some (l, c, f)
  op : ops[l]? = some ol
  dst : ∀ d, ol.dst = some d → e[d]? = some none ∧ a.tmps[d]? = some (f b)
  new : h b = none
  low : w0.heap.size ≤ b
  lt : b < w.heap.size
  at_ : ∃ x, w.heap[b]? = some x ∧ ObRep x (.cells c true)
theorem Early.put {w0 : World} {pd : Pend} {e : Env} {h h' : Hp} {a : Act} {w w' : World} {l b : Nat} {c : List Value} {f : Nat → Value} {ol o : Oper} {v : Value}
    (E : Early ops w0 pd e h a w l b c f ol) (hx : Ext h w h' w') (hne : dstNe o ol = true) : Early ops w0 pd (putE e o.dst v) h' (a.put o.dst v) w' l b c f ol where
  pd := E.pd
  op := E.op
  dst := by
    intro d hd
    obtain ⟨h1, h2⟩ := E.dst d hd
    cases ho : o.dst with
    | none => exact ⟨h1, h2⟩
    | some d' =>
      have : d' ≠ d := by
        intro hh; subst hh
        simp [dstNe, ho, hd] at hne
      simp only [putE, Act.put]
      exact ⟨by rw [List.getElem?_set_ne this]; exact h1, by rw [Array.getElem?_setIfInBounds_ne this]; exact h2⟩
  new := by
    cases hb : h' b with
    | none => rfl
    | some o' =>
      rcases hx.new b o' hb with h1 | h1
      · exact absurd E.new h1
      · exact absurd E.lt (Nat.not_lt.2 h1)
  low := E.low
  lt := Nat.lt_of_lt_of_le E.lt hx.size
  at_ := by
    obtain ⟨x, h1, h2⟩ := E.at_
    exact ⟨x, by rw [hx.keep b E.lt (fun o ho => by rw [E.new] at ho; cases ho)]; exact h1, h2⟩
theorem Early.rep {w0 : World} {pd : Pend} {e : Env} {h : Hp} {a : Act} {w : World} {l b : Nat} {c : List Value} {f : Nat → Value} {ol : Oper} (E : Early ops w0 pd e h a w l b c f ol) (r : Rep h w) : Rep (upd h b (.cells c true)) w := by
  intro x o hx
  simp only [upd] at hx
  split at hx
  · rename_i hb; cases hx; subst hb; exact E.at_
  · exact r x o hx
theorem Early.ext {h0 : Hp} {w0 : World} {pd : Pend} {e : Env} {h : Hp} {a : Act} {w : World} {l b : Nat} {c : List Value} {f : Nat → Value} {ol : Oper} (E : Early ops w0 pd e h a w l b c f ol) (x : Ext h0 w0 h w) :
    Ext h0 w0 (upd h b (.cells c true)) w where
  size := x.size
  keep := x.keep
  new := by
    intro y o hy
    simp only [upd] at hy
    split at hy
    · rename_i hb; exact .inr (by rw [hb]; exact E.low)
    · exact x.new y o hy
  ro := by
    intro y o o' hy ho hr hy'
    rw [upd_other h _ (by intro hb; subst hb; exact absurd hy (Nat.not_lt.2 E.low))] at hy'
    exact x.ro y o o' hy ho hr hy'
  tape := x.tape
  os := x.os
  output := x.output
theorem Early.env {w0 : World} {pd : Pend} {e : Env} {h : Hp} {a : Act} {w : World} {l b : Nat} {c : List Value} {f : Nat → Value} {ol : Oper} (E : Early ops w0 pd e h a w l b c f ol) (hE : EnvOk e a.tmps) : EnvOk (putE e ol.dst (f b)) a.tmps := by
  cases hd : ol.dst with
  | none => exact hE
  | some d =>
    refine ⟨by simp [putE, hE.len], fun i v hv => ?_⟩
    simp only [putE] at hv
    rw [List.getElem?_set] at hv
    split at hv
    · rename_i hdi
      subst hdi
      split at hv
      · cases hv; exact (E.dst _ hd).2
      · cases hv
    · exact hE.get i v hv
/-- The exits that a region comes to: the usual one alone. -/
def OnlyN (F : Act → World → Prop) : Exit → Act → World → Prop := fun ex a w => ex = .normal ∧ F a w
theorem still (F : Act → World → Prop) : Still (OnlyN F) := ⟨fun _ _ _ h => (by cases h.1), fun _ _ h => (by cases h.1)⟩
theorem isEff_of {i : Nat} {o : Oper} (ho : ops[i]? = some o) (hq : quietOp P o = true) : isEff P ops i = false := by simp [isEff, ho, hq]
theorem set_size {L : Array Bool} {i : Nat} (h : L.size = ops.size) : (L.setIfInBounds i true).size = ops.size := by simpa using h
theorem in_size {L : Array Bool} {i : Nat} {o : Oper} (h : L.size = ops.size) (ho : ops[i]? = some o) : i < L.size := by rw [h]; exact (Array.getElem?_eq_some_iff.1 ho).1
structure Goal (P : Program) (ops : Array Oper) (h0 : Hp) (w0 : World) (F : Act → World → Prop) (n : Nat) (pd : Pend) (T : Taken) (L : Array Bool) (e : Env) (h : Hp) (a : Act) (w : World) : Prop where
  plain : JOk P ops (masks ops.toList []) T L a w → wpAnyJ P ops (masks ops.toList []) (OnlyN F) T n L a w
def GoalE (P : Program) (ops : Array Oper) (w0 : World) (F : Act → World → Prop) (n : Nat) (pd : Pend) (T : Taken) (L : Array Bool) (e : Env) (h : Hp) (a : Act) (w : World) : Prop :=
  ∀ l b c f ol, Early ops w0 pd e h a w l b c f ol → Closed ops (L.setIfInBounds l true) → JOk P ops (masks ops.toList []) T (L.setIfInBounds l true) a w →
    wpAnyJ P ops (masks ops.toList []) (OnlyN F) T (n - 1) (L.setIfInBounds l true) a w
theorem yields_of {o : Oper} {e : Env} {h : Hp} {a : Act} {w : World} {K : Value → Prop} (hs : wantK ops o e fun b => bcase b (qK P o e h K) (K undef)) (hE : EnvOk e a.tmps) (hr : Rep h w) : ∃ v, YieldsA P ops o v a w ∧ K v := by
  have hs := wantK_elim hE hs
  unfold YieldsA
  cases hw : Region.wanted o (yielded ops a.tmps) with
  | true =>
    rw [hw] at hs
    obtain ⟨r, ⟨u, hu, hk⟩, hrun⟩ := qK_sound hE hs
    exact ⟨u, .inl ⟨rfl, by rw [hrun w hr, hu]⟩, hk⟩
  | false =>
    rw [hw] at hs
    exact ⟨undef, .inr ⟨rfl, rfl⟩, hs⟩
theorem qOk_spec {T : Taken} {L : Array Bool} {i : Nat} {o : Oper} (ho : ops[i]? = some o) (hq : qOk ops (T.map (·.1)) L i o = true) :
    notLook ops i o.dst = true ∧ (∀ y u, (y, u) ∈ T → notLook ops y o.dst = true) ∧ i ∈ Region.ready .any ops L ∧
    (∀ j oj, ops[j]? = some oj → j ≠ i → L.getD j true = false → (∀ e ∈ oj.after, Region.binds .any e = true → e.on ≠ i) → o.apart ops oj = true) := by
  simp only [qOk, Bool.and_eq_true, List.all_eq_true, List.mem_map] at hq
  obtain ⟨⟨⟨h1, h2⟩, h3⟩, h4⟩ := hq
  exact ⟨h1, fun y u hm => h2 y ⟨_, hm, rfl⟩, by simpa [ready] using h3, fun j oj hj hne hun hno => Region.free_spec ho h4 j oj hj hne hun hno⟩
theorem drawA_sound (hsel : Region.noSelect ops = true) {h0 : Hp} {w0 : World} {ds : List Deferred} {F : Act → World → Prop} :
    ∀ (s : List PS) (pd : Pend) (T : Taken) (L : Array Bool) (e : Env) (h : Hp) (k : Env → Hp → Prop) (a : Act) (w : World),
      planOk P ops (masks ops.toList []) s (T.map (·.1)) (pd.map (·.1)) L = true → drawA P ops s pd T L e h k →
      (∀ e' h' a' w', k e' h' → EnvOk e' a'.tmps → a'.defers = ds → Rep h' w' → Ext h0 w0 h' w' → F a' w') →
      L.size = ops.size → Closed ops L → EnvOk e a.tmps → a.defers = ds → Rep h w → Ext h0 w0 h w →
      (JOk P ops (masks ops.toList []) T L a w → wpAnyJ P ops (masks ops.toList []) (OnlyN F) T s.length L a w) ∧ GoalE P ops w0 F s.length pd T L e h a w := by
  intro s
  induction s with
  | nil =>
    intro pd T L e h k a w hp hd hF hsz hcl hE hdf hr hx
    simp only [planOk, Bool.and_eq_true] at hp
    have hn : pd = none := by cases pd with | none => rfl | some x => simp at hp
    refine ⟨fun hJ => ⟨hJ, by simpa [ready] using hp.2, rfl, hF e h a w hd hE hdf hr hx⟩, ?_⟩
    intro l b c f ol hEa
    rw [hn] at hEa
    have := hEa.pd
    cases this
  | cons st s ih =>
    intro pd T L e h k a w hp hd hF hsz hcl hE hdf hr hx
    cases st with
    | q i =>
      simp only [planOk] at hp
      split at hp
      case h_2 => cases hp
      rename_i o ho
      simp only [Bool.and_eq_true] at hp
      obtain ⟨⟨⟨hq, hqo⟩, hpd⟩, hp⟩ := hp
      simp only [drawA, ho] at hd
      have hd' : wantK ops o e fun b => bcase b (qK P o e h fun v => drawA P ops s pd ((i, v) :: T) (L.setIfInBounds i true) (putE e o.dst v) h k)
        ((fun v => drawA P ops s pd ((i, v) :: T) (L.setIfInBounds i true) (putE e o.dst v) h k) undef) := hd
      obtain ⟨v, hy, hd⟩ := yields_of hd' hE hr
      have hil := in_size hsz ho
      have heff := isEff_of (P := P) ho hq
      obtain ⟨s1, s2, s3, s4⟩ := qOk_spec ho hqo
      obtain ⟨g1, g2⟩ := ih pd ((i, v) :: T) (L.setIfInBounds i true) (putE e o.dst v) h k (a.put o.dst v) w hp hd hF (set_size hsz) (closed_set hcl s3 hil) (hE.put o.dst v) ((put_defers ..).trans hdf) hr hx
      refine ⟨fun hJ => ?_, ?_⟩
      · exact wpAnyJ_first (still F) ho hsel heff s1 s2 s.length L a w hsz hcl s4 s3 hy hJ (g1 (JOk.push hsel ho heff hil s1 s2 hy hJ))
      · intro l b c f ol hEa hcl' hJ
        have hpl : pd = some (l, c, f) := hEa.pd
        rw [hpl] at hpd
        simp only [Option.map_some, hEa.op, Bool.and_eq_true] at hpd
        obtain ⟨hqo', hne⟩ := hpd
        obtain ⟨t1, t2, t3, t4⟩ := qOk_spec ho hqo'
        have hsz' : (L.setIfInBounds l true).size = ops.size := set_size hsz
        have hil' := in_size hsz' ho
        have hpos : s ≠ [] := by
          intro hs; subst hs
          rw [hpl] at hp; simp [planOk] at hp
        have hlen : s.length = (s.length - 1) + 1 := by
          have : s.length ≠ 0 := fun h => hpos (List.eq_nil_of_length_eq_zero h)
          omega
        show wpAnyJ P ops _ (OnlyN F) T s.length _ a w
        rw [hlen]
        have hcomm : (L.setIfInBounds l true).setIfInBounds i true = (L.setIfInBounds i true).setIfInBounds l true := by
          by_cases hil2 : l = i
          · rw [hil2]
          · exact Array.setIfInBounds_comm _ _ hil2
        refine wpAnyJ_first (still F) ho hsel heff t1 t2 _ _ a w hsz' hcl' t4 t3 hy hJ ?_
        rw [hcomm]
        refine g2 l b c f ol (hEa.put (.refl h w) hne) ?_ ?_
        · rw [← hcomm]; exact closed_set hcl' t3 hil'
        · rw [← hcomm]; exact JOk.push hsel ho heff hil' t1 t2 hy hJ
    | e i rs =>
      simp only [planOk, Bool.and_eq_true] at hp
      obtain ⟨⟨⟨hn, hrd⟩, hrs⟩, hp⟩ := hp
      have hn : pd = none := by cases pd with | none => rfl | some x => simp at hn
      subst hn
      have hrd : Region.ready .any ops L = [i] := by simpa [ready] using hrd
      simp only [drawA] at hd
      have him : i ∈ Region.ready .any ops L := by rw [hrd]; simp
      obtain ⟨_, o, ho, _⟩ := mem_ready.1 him
      have hil := in_size hsz ho
      refine ⟨fun hJ => ⟨hJ, fun h0 => (by rw [hrd] at h0; cases h0), fun j hj => ?_⟩, fun l b c f ol hEa => by have := hEa.pd; cases this⟩
      rw [hrd] at hj
      have hji : j = i := by simpa using hj
      subst hji
      have hds : dstAt ops j = o.dst := by simp [dstAt, ho]
      rw [hds] at hd
      refine effA_sound ho hd hE hr fun v h' w' hk hr' hx' => ?_
      have hE' := hE.put o.dst v
      exact (ih none T (L.setIfInBounds j true) _ h' k _ w' hp hk.2 hF (set_size hsz) (closed_set hcl him hil) hE' ((put_defers ..).trans hdf) hr' (hx.trans hx')).1 (recheckK_sound hE' hr' hk.1 hrs)
    | p i l rs0 rs =>
      simp only [planOk, Bool.and_eq_true] at hp
      obtain ⟨⟨⟨⟨⟨⟨hrs0, hrs⟩, hops⟩, hpd⟩, hrd⟩, hrd2⟩, hp⟩ := hp
      have hrd2 : Region.ready .any ops (L.setIfInBounds l true) = [i] := by simpa [ready] using hrd2
      have hrd : Region.ready .any ops L = [i, l] ∨ Region.ready .any ops L = [l, i] := by simpa [ready] using hrd
      have him : i ∈ Region.ready .any ops L := by rcases hrd with h | h <;> rw [h] <;> simp
      have hlm : l ∈ Region.ready .any ops L := by rcases hrd with h | h <;> rw [h] <;> simp
      have hil2 : l ≠ i := by
        intro hh; subst hh
        have h1 : l ∈ Region.ready .any ops (L.setIfInBounds l true) := by rw [hrd2]; simp
        obtain ⟨h2, _⟩ := mem_ready.1 h1
        obtain ⟨_, o, ho, _⟩ := mem_ready.1 hlm
        have := in_size hsz ho
        simp [this] at h2
      obtain ⟨_, o, ho, _⟩ := mem_ready.1 him
      obtain ⟨_, ol, hol, _⟩ := mem_ready.1 hlm
      have hil := in_size hsz ho
      have hll := in_size hsz hol
      simp only [ho, hol, Bool.and_eq_true] at hops
      obtain ⟨hfr, hne⟩ := hops
      simp only [drawA, hol] at hd
      obtain ⟨c, f, ⟨hin, hsame, hre, heff⟩, hlate⟩ := lateK_at hd
      have hds : dstAt ops i = o.dst := by simp [dstAt, ho]
      rw [hds] at heff
      have hcomm : (L.setIfInBounds l true).setIfInBounds i true = (L.setIfInBounds i true).setIfInBounds l true := Array.setIfInBounds_comm _ _ hil2
      have hpos : s ≠ [] := by intro hs; subst hs; simp [planOk] at hp
      have hlen : s.length = (s.length - 1) + 1 := by
        have : s.length ≠ 0 := fun h => hpos (List.eq_nil_of_length_eq_zero h)
        omega
      have hcl' := closed_set hcl hlm hll
      have some_p : ∀ a1 w1 b, Early ops w0 (some (l, c, f)) (clearE' e ol.dst) h a1 w1 l b c f ol → EnvOk (clearE' e ol.dst) a1.tmps → a1.defers = ds → Rep h w1 → Ext h0 w0 h w1 →
          JOk P ops (masks ops.toList []) T (L.setIfInBounds l true) a1 w1 → wpAnyJ P ops (masks ops.toList []) (OnlyN F) T s.length (L.setIfInBounds l true) a1 w1 := by
        intro a1 w1 b hEa hE1 hdf1 hr1 hx1 hJ1
        rw [hlen]
        refine ⟨hJ1, fun h0 => (by rw [hrd2] at h0; cases h0), fun j hj => ?_⟩
        rw [hrd2] at hj
        have hji : j = i := by simpa using hj
        subst hji
        refine effA_sound ho heff hE1 hr1 fun v h' w' hk hr' hx' => ?_
        have hE' := hE1.put o.dst v
        have g := (ih (some (l, c, f)) T (L.setIfInBounds j true) _ h' k _ w' hp hk.2 hF (set_size hsz) (closed_set hcl him hil) hE' ((put_defers ..).trans hdf1) hr' (hx1.trans hx')).2
        rw [hcomm]
        refine g l b c f ol (hEa.put hx' hne) ?_ ((recheckK_sound hE' hr' hk.1 hrs).mono fun j => getD_mono _ _ _)
        rw [← hcomm]
        exact closed_set hcl' (by rw [hrd2]; simp) (in_size (set_size hsz) ho)
      have hd0 : ∀ d, ol.dst = some d → (clearE' e ol.dst)[d]? = some none := by
        intro d hd
        rw [hd] at hin ⊢
        have : d < e.length := by simpa [dstIn] using hin
        simp [clearE', this]
      refine ⟨fun hJ => ⟨hJ, fun h0 => (by rw [h0] at him; cases him), fun j hj => ?_⟩, ?_⟩
      · have hj : j = i ∨ j = l := by rcases hrd with h | h <;> rw [h] at hj <;> simp at hj <;> omega
        rcases hj with hj | hj
        · subst hj
          refine effA_sound ho heff (hE.clear ol.dst) hr fun v h' w' hk hr' hx' => ?_
          have hE' := (hE.clear ol.dst).put o.dst v
          exact (ih (some (l, c, f)) T (L.setIfInBounds j true) _ h' k _ w' hp hk.2 hF (set_size hsz) (closed_set hcl him hil) hE' ((put_defers ..).trans hdf) hr' (hx.trans hx')).1 (recheckK_sound hE' hr' hk.1 hrs)
        · subst hj
          have hek : eK P ol e h (fun v h' => ∃ b, h b = none ∧ v = f b ∧ h' = upd h b (.cells c true)) :=
            late_eK hlate fun c' f' hcf => by
              obtain ⟨h1, h2⟩ := hcf
              subst h1; subst h2
              intro b hb
              exact ⟨b, hb, rfl, rfl⟩
          obtain ⟨hst, hg⟩ := fresh_step hfr hek
          have heff2 : effA P ops j e h (fun v h' => ∃ b, h b = none ∧ v = f b ∧ h' = upd h b (.cells c true)) := by
            simp only [effA, hol, wantK, hg]; exact hst
          refine effA_sound hol heff2 hE hr fun v h' w' hk hr' hx' => ?_
          obtain ⟨b, hb, rfl, rfl⟩ := hk
          have hsub := Sub.upd_new hb (.cells c true)
          have hE1 : EnvOk (clearE' e ol.dst) (a.put ol.dst (f b)).tmps := by
            have h1 := (hE.put ol.dst (f b)).clear ol.dst
            have h2 : clearE' (putE e ol.dst (f b)) ol.dst = clearE' e ol.dst := by
              cases ol.dst with
              | none => rfl
              | some d => simp [clearE', putE]
            rw [h2] at h1; exact h1
          have hlo : w.heap.size ≤ b := by
            rcases hx'.new b _ (upd_same h b _) with h1 | h1
            · exact absurd hb h1
            · exact h1
          have hEa : Early ops w0 (some (j, c, f)) (clearE' e ol.dst) h (a.put ol.dst (f b)) w' j b c f ol :=
            { pd := rfl
              op := hol
              dst := fun d hd => ⟨hd0 d hd, by
                have hlt : d < e.length := by rw [hd] at hin; simpa [dstIn] using hin
                rw [hd]
                simp only [Act.put]
                rw [Array.getElem?_setIfInBounds, if_pos rfl, if_pos (by rw [← hE.len]; exact hlt)]⟩
              new := hb
              low := Nat.le_trans hx.size hlo
              lt := hr'.lt (upd_same h b _)
              at_ := hr' b _ (upd_same h b _) }
          exact some_p _ w' b hEa hE1 ((put_defers ..).trans hdf) (hr'.sub hsub) (hx.trans (hx'.sub hsub)) (recheckK_sound hE1 (hr'.sub hsub) hre hrs0)
      · intro l' b c' f' ol' hEa hclx hJ
        have hpl := hEa.pd
        subst hpl
        have hll' : l' = l := by simpa using hpd
        subst hll'
        simp only [sameP] at hsame
        obtain ⟨h1, h2⟩ := hsame
        subst h1; subst h2
        have hoo : ol' = ol := by have := hEa.op; rw [hol] at this; exact (Option.some.inj this).symm
        subst hoo
        exact some_p a w b ⟨rfl, hol, fun d hd => ⟨hd0 d hd, (hEa.dst d hd).2⟩, hEa.new, hEa.low, hEa.lt, hEa.at_⟩ (hE.clear _) hdf hr hx hJ
    | l i rs =>
      simp only [planOk, Bool.and_eq_true] at hp
      obtain ⟨⟨⟨⟨hrs, hpd⟩, hrd⟩, hfr⟩, hp⟩ := hp
      have hrd : Region.ready .any ops L = [i] := by simpa [ready] using hrd
      have him : i ∈ Region.ready .any ops L := by rw [hrd]; simp
      obtain ⟨_, o, ho, _⟩ := mem_ready.1 him
      have hil := in_size hsz ho
      cases pd with
      | none => simp [drawA, ho] at hd
      | some x =>
      obtain ⟨l, c, f⟩ := x
      have hli : l = i := by simpa using hpd
      subst hli
      simp only [drawA, ho] at hd
      obtain ⟨hlate, hd⟩ := hd
      rw [ho] at hfr
      have hfr : freshOp o = true := hfr
      refine ⟨fun hJ => ⟨hJ, fun h0 => (by rw [hrd] at h0; cases h0), fun j hj => ?_⟩, ?_⟩
      · rw [hrd] at hj
        have hji : j = l := by simpa using hj
        subst hji
        have hek : eK P o e h (fun v h' => ∃ b, h b = none ∧ v = f b ∧ h' = upd h b (.cells c true)) :=
          late_eK hlate fun c' f' hcf => by
            obtain ⟨h1, h2⟩ := hcf
            subst h1; subst h2
            intro b hb
            exact ⟨b, hb, rfl, rfl⟩
        obtain ⟨hst, hg⟩ := fresh_step hfr hek
        have heff : effA P ops j e h (fun v h' => ∃ b, h b = none ∧ v = f b ∧ h' = upd h b (.cells c true)) := by
          simp only [effA, ho, wantK, hg]; exact hst
        refine effA_sound ho heff hE hr fun v h' w' hk hr' hx' => ?_
        obtain ⟨b, hb, rfl, rfl⟩ := hk
        have hd := hd b hb
        have hE' := hE.put o.dst (f b)
        exact (ih none T (L.setIfInBounds j true) _ _ k _ w' hp hd.2 hF (set_size hsz) (closed_set hcl him hil) hE' ((put_defers ..).trans hdf) hr' (hx.trans hx')).1 (recheckK_sound hE' hr' hd.1 hrs)
      · intro l' b c' f' ol hEa hcl' hJ
        have hpl := hEa.pd
        simp only [Option.some.injEq, Prod.mk.injEq] at hpl
        obtain ⟨rfl, rfl, rfl⟩ := hpl
        have hol : ol = o := by have := hEa.op; rw [ho] at this; exact (Option.some.inj this).symm
        subst hol
        have hd := hd b hEa.new
        exact (ih none T (L.setIfInBounds l true) _ _ k a w hp hd.2 hF (set_size hsz) hcl' (hEa.env hE) hdf (hEa.rep hr) (hEa.ext hx)).1 hJ
theorem CodeA.regionD {id : Nat} {s : List PS} {e : Env} {h : Hp} {k : Exit → Env → Hp → Prop} (hm : P.follows .mixedOrders = true) (hsel : Region.noSelect ops = true)
    (hp : planOk P ops (masks ops.toList []) s [] none (Array.replicate ops.size false) = true) (hlen : s.length = ops.size)
    (hs : drawA P ops s none [] (Array.replicate ops.size false) e h (k .normal)) : CodeA P (.region id ops true) e h k := by
  intro a w hE hr Q hQ
  have hcl : Closed ops (Array.replicate ops.size false) := by
    intro j o _ hj
    exfalso
    simp only [Array.getD_eq_getD_getElem?, Array.getElem?_replicate] at hj
    split at hj <;> simp at hj
  have main := (drawA_sound hsel (h0 := h) (w0 := { w with drawn := w.drawn + 1 }) (ds := a.defers) (F := fun a' w' => Q .normal a' w') s none [] _ e h (k .normal) a { w with drawn := w.drawn + 1 } hp hs
    (fun e' h' a' w' hk hE' hd hr' hx => hQ _ e' h' a' w' hk hE' hd hr' ((Ext.drew h w _).trans hx)) (by simp) hcl hE rfl (hr.drew _) (.refl _ _)).1 (fun y v hm => by cases hm)
  rw [hlen] at main
  have h1 : (Code.region id ops true).wp P (OnlyN fun a' w' => Q .normal a' w') a w := wp_region_any hm (wpAnyJ_any _ _ _ _ main)
  exact Code.wp_mono (fun ex a' w' hq => by obtain ⟨rfl, hq⟩ := hq; exact hq) h1
end
end Go.Sl
