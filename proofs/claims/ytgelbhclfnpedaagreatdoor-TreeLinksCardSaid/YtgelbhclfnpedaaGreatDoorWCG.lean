/-
  wal.Txn.Blocks: the numbers of a map, sorted: over slices.Sort's contract.
-/
import Derived.Test.YtgelbhclfnpedaaGreatDoorWCE
import Derived.Test.YtgelbhclfnpedaaGreatDoorChecked
import Derived.Shelf.Sort.Plain
set_option linter.all false
set_option linter.unusedVariables false
set_option linter.unusedSimpArgs false
set_option maxRecDepth 1000000
set_option linter.unusedSimpArgs false
namespace Go.Sl
open Go Go.Proofs
def intsV (zs : List Int) : List Value := zs.map (Value.int .i64)
def leI (x y : Int) : Bool := decide (x ≤ y)
def SortA (P : Program) (i : FuncId) : Prop := ∀ (b cap : Nat) (zs : List Int) (h : Hp) (rest : List Value) (kk : Value → Hp → Prop), h b = some (.cells (intsV zs ++ rest) true) → zs ≠ [] → zs.length ≤ 1000000 →
  kk (.tuple #[]) (upd h b (.cells (intsV (zs.mergeSort leI) ++ rest) true)) → EnterA P i [.slice (some ⟨b, 0, none⟩) zs.length cap] h kk
def SortNil (P : Program) (i : FuncId) : Prop := ∀ (h : Hp) (kk : Value → Hp → Prop), kk (.tuple #[]) h → EnterA P i [.slice none 0 0] h kk
theorem size3 (k : Nat → Prop) : sizeK Tryz.prog 3 k = k 1 := by kernel_rfl
theorem zero3 (k : List Value → Prop) : zeroK Tryz.prog 3 k = k [.int .i64 0] := by kernel_rfl
theorem sliceT97 (k : TypeId → Prop) : sliceTK Tryz.prog 97 k = k 3 := by kernel_rfl
theorem fa210 (b o : Nat) (h : Hp) (k : Value → Hp → Prop) : fieldAddrOp Tryz.prog 210 (ptr b o) 1 h k = k (ptr b (o + 1)) h := by kernel_rfl
theorem ld208 (v : Value) (h : Hp) (k : Value → Hp → Prop) : loadOp Tryz.prog 208 v h k = loadK1 h v fun x => k x h := by kernel_rfl
theorem rg208 (m : Nat) (h : Hp) (k : Value → Hp → Prop) : rangeOp Tryz.prog 208 (.map (some m)) h k = mapK h m fun _ c => ∀ b, h b = none → k (ptr b 0) (upd h b (.miter m c [] c)) := by kernel_rfl
theorem bs97 (ps : List (Nat × Value)) (h : Hp) (k : Value → Hp → Prop) (x : Value) (h1 : one x = true) (hk : ∀ b, h b = none → k (.slice (some ⟨b, 0, none⟩) 1 1) (upd h b (.cells [x] true))) (hp : ps = [(0, x)]) : buildSliceOp Tryz.prog 97 1 ps h k := by
  subst hp
  unfold buildSliceOp
  rw [sliceT97, size3, zero3]
  refine chk_true (by decide) ?_
  simp only [triples, optK]
  refine chk_true ?_ ?_
  · have := cellsL_one h1
    simp [this, repL]
  · simp only [fillK, newK]
    intro b hb
    have := cellsL_one h1
    have ho : over (repL 1 [Value.int .i64 0]) (0 * 1) (cellsL x) = [x] := by rw [this]; simp [over, repL]
    rw [ho]
    exact hk b hb
theorem ap97 (s x : Value) (h : Hp) (k : Value → Hp → Prop) (hk : appK 1 [.int .i64 0] s x h k) : appendOp Tryz.prog 97 97 s x h k := by
  have : appendOp Tryz.prog 97 97 s x h k = appK 1 [.int .i64 0] s x h k := by kernel_rfl
  rw [this]; exact hk
structure BInv (h : Hp) (m c : Nat) (es : List MapEntry) (it n : Nat) (e : Env) (hh : Hp) (vs : List MapEntry) (sv : Value) : Prop where
  len : e.length = 23
  e3 : e[3]? = some (some sv)
  e11 : e[11]? = some (some (ptr it 0))
  cnt : n + vs.length = es.length
  iter : hh it = some (.miter m c (vs.map (·.born)) c)
  sub : Sub h hh
  mem : ∀ x ∈ vs, x ∈ es
  nd : (vs.map (·.born)).Nodup
  out : (vs = [] ∧ sv = .slice none 0 0) ∨ ∃ b' cap rest, sv = .slice (some ⟨b', 0, none⟩) vs.length cap ∧ vs ≠ [] ∧ hh b' = some (.cells (vs.map (·.key) ++ rest) true) ∧ rest.length + vs.length = cap ∧ h b' = none ∧ b' ≠ it
theorem perm_of_left {es vs : List MapEntry} (hnd : (es.map (·.born)).Nodup) (hvd : (vs.map (·.born)).Nodup) (hmem : ∀ x ∈ vs, x ∈ es) (hl : leftL es (vs.map (·.born)) = []) : vs.Perm es := by
  have inj : ∀ x ∈ es, ∀ y ∈ es, x.born = y.born → x = y := by
    intro x hx y hy hxy
    have hp : es.Pairwise (fun a b => a.born ≠ b.born) := by simpa [List.Nodup, List.pairwise_map] using hnd
    rcases List.mem_iff_getElem.1 hx with ⟨i, hi, rfl⟩
    rcases List.mem_iff_getElem.1 hy with ⟨j, hj, rfl⟩
    rcases Nat.lt_trichotomy i j with h | h | h
    · exact absurd hxy (List.pairwise_iff_getElem.1 hp i j hi hj h)
    · subst h; rfl
    · exact absurd hxy.symm (List.pairwise_iff_getElem.1 hp j i hj hi h)
  have nodupE : es.Nodup := by
    have : es.Pairwise (fun a b => a.born ≠ b.born) := by simpa [List.Nodup, List.pairwise_map] using hnd
    exact this.imp fun h e => h (by rw [e])
  have nodupV : vs.Nodup := by
    have : vs.Pairwise (fun a b => a.born ≠ b.born) := by simpa [List.Nodup, List.pairwise_map] using hvd
    exact this.imp fun h e => h (by rw [e])
  refine (List.perm_ext_iff_of_nodup nodupV nodupE).2 fun x => ⟨hmem x, fun hx => ?_⟩
  have : ¬ (x ∈ leftL es (vs.map (·.born))) := by rw [hl]; simp
  simp only [leftL, List.mem_filter, not_and, Bool.not_eq_true, Bool.not_eq_false'] at this
  have := this hx
  simp only [List.contains_eq_mem, decide_eq_true_eq, List.mem_map] at this
  obtain ⟨y, hy, hxy⟩ := this
  rw [inj x hx y (hmem y hy) hxy.symm]; exact hy
theorem len_le_of {α : Type} : ∀ {l m : List α}, l.Nodup → (∀ a ∈ l, a ∈ m) → l.length ≤ m.length := by
  intro l
  induction l with
  | nil => intro m _ _; exact Nat.zero_le _
  | cons a l ih =>
    intro m hn hs
    obtain ⟨m1, m2, rfl⟩ := List.append_of_mem (hs a (by simp))
    rw [List.nodup_cons] at hn
    have := ih (m := m1 ++ m2) hn.2 fun b hb => by
      have h1 := hs b (by simp [hb])
      simp only [List.mem_append, List.mem_cons] at h1 ⊢
      rcases h1 with h1 | h1 | h1
      · exact .inl h1
      · subst h1; exact absurd hb hn.1
      · exact .inr h1
    simp only [List.length_append, List.length_cons] at this ⊢
    omega
theorem sort_perm {l l' : List Int} (h : l.Perm l') : l.mergeSort leI = l'.mergeSort leI := by
  have tr : ∀ a b c : Int, leI a b = true → leI b c = true → leI a c = true := fun a b c h1 h2 => by simp only [leI, decide_eq_true_eq] at *; omega
  have to : ∀ a b : Int, (leI a b || leI b a) = true := fun a b => by simp only [leI, Bool.or_eq_true, decide_eq_true_eq]; omega
  refine List.Perm.eq_of_pairwise (le := fun a b => leI a b = true) (fun a b _ _ h1 h2 => ?_) (List.pairwise_mergeSort tr to l) (List.pairwise_mergeSort tr to l') (((List.mergeSort_perm l leI).trans h).trans (List.mergeSort_perm l' leI).symm)
  simp only [leI, decide_eq_true_eq] at h1 h2
  omega
theorem intsV_inj {a b : List Int} (h : intsV a = intsV b) : a = b := by
  induction a generalizing b with
  | nil => cases b with
    | nil => rfl
    | cons x b => cases h
  | cons x a ih => cases b with
    | nil => cases h
    | cons y b =>
      simp only [intsV, List.map_cons, List.cons.injEq, Value.int.injEq, true_and] at h
      rw [h.1, ih h.2]
theorem keys_ints {es : List MapEntry} {ns : List Int} (hns : es.map (·.key) = intsV ns) : ∀ {vs : List MapEntry}, (∀ x ∈ vs, x ∈ es) → ∃ zs, vs.map (·.key) = intsV zs := by
  intro vs
  induction vs with
  | nil => intro _; exact ⟨[], rfl⟩
  | cons x vs ih =>
    intro hm
    obtain ⟨zs, hz⟩ := ih fun y hy => hm y (by simp [hy])
    have : x.key ∈ es.map (·.key) := List.mem_map.2 ⟨x, hm x (by simp), rfl⟩
    rw [hns] at this
    obtain ⟨z, _, hz'⟩ := List.mem_map.1 this
    exact ⟨z :: zs, by simp [intsV, hz, ← hz']⟩
theorem ints_perm {a b : List Int} (h : (intsV a).Perm (intsV b)) : a.Perm b := by
  have := h.map fun v : Value => match v with | .int _ n => n | _ => 0
  simpa [intsV, Function.comp_def] using this
variable {h : Hp} {b o m c : Nat} {cs : List Value} {wr : Bool} {es : List MapEntry} {kk : Value → Hp → Prop}
theorem blocks_A (hs : SortA Tryz.prog 141) (hn : SortNil Tryz.prog 141) (hb : h b = some (.cells cs wr)) (hc : cs[o + 1]? = some (.map (some m))) (hm : h m = some (.map es c)) (hold : ∀ e ∈ es, e.born < c) (hnd : (es.map (·.born)).Nodup)
    (ns : List Int) (hns : es.map (·.key) = intsV ns) (hlen : es.length ≤ 1000)
    (h0 : es = [] → kk (.slice none 0 0) h)
    (h1 : es ≠ [] → ∀ b' cap rest, h b' = none → rest.length + es.length = cap → kk (.slice (some ⟨b', 0, none⟩) es.length cap) (upd h b' (.cells (intsV (ns.mergeSort leI) ++ rest) true))) : CallA Tryz.prog 63 [ptr b o] h kk := by
  refine CallA.func Tryz.func63 rfl ?_
  rw [show (List.map some [ptr b o] ++ List.replicate (Tryz.f63.ntmps - [ptr b o].length) none) = [some (ptr b o), none, none, none, none, none, none, none, none, none, none, none, none, none, none, none, none, none, none, none, none, none, none] from rfl]
  refine .seq (.regionW ?_)
  simp only [opsW, wantK, bcase, stepV, opK, quietOp, eK, qK, getK, putE, seqQ, List.set]
  refine .seq (.seq (.regionW ?_))
  simp only [opsW, wantK, bcase, stepV, opK, quietOp, eK, qK, getK, putE, seqQ, List.set, List.getElem?_cons_zero, List.getElem?_cons_succ]
  have hne : ∀ k : Value → Prop, k (.bool false) → binK Tryz.prog .eql 72 (ptr b o) (.pointer none) k := fun k hk => hk
  refine hne _ ?_
  refine .cond ?_
  simp only [getK, List.getElem?_cons_zero, List.getElem?_cons_succ, boolK, bcase]
  refine .skip ?_
  simp only [seqQ]
  refine .seq (.regionW ?_)
  simp only [opsW, wantK, bcase, stepV, opK, quietOp, eK, qK, getK, putE, seqQ, List.set, List.getElem?_cons_zero, List.getElem?_cons_succ]
  refine .seq (.seq (.regionW ?_))
  simp only [opsW, wantK, bcase, stepV, opK, quietOp, eK, qK, getK, putE, seqQ, List.set, List.getElem?_cons_zero, List.getElem?_cons_succ]
  simp only [nilChkOp, ptr]
  rw [show (Value.pointer (some { block := b, off := o })) = ptr b o from rfl]
  rw [fa210]
  rw [ld208]
  refine loadK1_in hb hc ?_
  rw [rg208]
  simp only [mapK, hm]
  intro it hit
  have hbi : b ≠ it := fun h => by subst h; rw [hb] at hit; cases hit
  have hmi : m ≠ it := fun h => by subst h; rw [hm] at hit; cases hit
  refine .block (.loopN (fun n e hh => ∃ vs sv, BInv h m c es it n e hh vs sv) (n := es.length) ⟨[], .slice none 0 0, rfl, rfl, rfl, rfl, upd_same _ _ _, .upd_new hit _, by simp, .nil, .inl ⟨rfl, rfl⟩⟩ ?_)
  rintro n e hh ⟨vs, sv, I⟩
  refine .seq (.regionW ?_)
  simp only [opsW, wantK, bcase, stepV, opK, quietOp, eK, qK, getK, putE, I.e11]
  unfold nextMOp
  simp only [ptr, I.iter, mapK, I.sub m _ hm]
  refine chk_true (by simp only [Bool.and_eq_true, List.all_eq_true, decide_eq_true_eq]; exact ⟨hold, Nat.le_refl _⟩) ⟨fun hl => ?_, fun x hx => ?_⟩
  · -- nothing is left
    simp only [List.getElem?_set, I.len, if_true, Nat.lt_irrefl, Nat.reduceLT, extractK, tup, nthK]
    simp only [seqQ]
    refine .seq (.cond ?_)
    simp only [getK, List.getElem?_set, List.length_set, I.len, Nat.reduceLT, if_true, boolK, bcase]
    refine .exit ?_
    simp only [seqQ, loopNQ, blockQ, BEq.rfl, bcase]
    have hp := perm_of_left hnd I.nd I.mem hl
    have hlenv : vs.length = es.length := hp.length_eq
    refine .seq (.regionW ?_)
    simp only [opsW, wantK, bcase, stepV, callK, opK, quietOp, eK, qK, getK, argsK, putE, List.getElem?_set, List.length_set, I.len, I.e3, Nat.reduceLT, if_true, Nat.reduceEqDiff, if_false, List.nil_append, List.append_nil]
    rcases I.out with ⟨rfl, rfl⟩ | ⟨b', cap, rest, rfl, hvn, hb', hcap, hfr, hbit⟩
    · have hes : es = [] := List.eq_nil_of_length_eq_zero (by rw [← hlenv]; rfl)
      refine hn hh _ ?_
      simp only [seqQ]
      refine .seq (.regionW ?_)
      simp only [opsW, wantK, bcase, stepV, callK, opK, quietOp, eK, qK, getK, argsK, putE, List.getElem?_set, List.length_set, I.len, I.e3, Nat.reduceLT, if_true, Nat.reduceEqDiff, if_false, seqQ]
      refine .ret ?_
      simp only [Tryz.f63, resK, getK, List.getElem?_set, List.length_set, I.len, I.e3, Nat.reduceLT, if_true, Nat.reduceEqDiff, if_false]
      exact ⟨h, I.sub, h0 hes⟩
    · obtain ⟨zs, hz⟩ := keys_ints hns I.mem
      have hzl : vs.length = zs.length := by have := congrArg List.length hz; simpa [intsV] using this
      have hzn : zs ≠ [] := fun h => hvn (List.eq_nil_of_length_eq_zero (by rw [hzl, h]; rfl))
      have hen : es ≠ [] := fun h => hvn (List.eq_nil_of_length_eq_zero (by rw [hlenv, h]; rfl))
      have hsort : zs.mergeSort leI = ns.mergeSort leI := sort_perm (ints_perm (by rw [← hz, ← hns]; exact hp.map _))
      rw [hz] at hb'
      rw [hzl]
      refine hs b' cap zs hh rest _ hb' hzn (by omega) ?_
      simp only [seqQ]
      refine .seq (.regionW ?_)
      simp only [opsW, wantK, bcase, stepV, callK, opK, quietOp, eK, qK, getK, argsK, putE, List.getElem?_set, List.length_set, I.len, I.e3, Nat.reduceLT, if_true, Nat.reduceEqDiff, if_false, seqQ]
      refine .ret ?_
      simp only [Tryz.f63, resK, getK, List.getElem?_set, List.length_set, I.len, I.e3, Nat.reduceLT, if_true, Nat.reduceEqDiff, if_false]
      refine ⟨upd h b' (.cells (intsV (zs.mergeSort leI) ++ rest) true), I.sub.upd_both _ _, ?_⟩
      have := h1 hen b' cap rest hfr (by omega)
      rw [← hlenv, hzl, ← hsort] at this
      rw [hzl]
      exact this
  · simp only [List.getElem?_set, I.len, if_true, Nat.reduceLT, extractK, tup, nthK, List.getElem?_cons_zero]
    simp only [seqQ]
    refine .seq (.cond ?_)
    simp only [getK, List.getElem?_set, List.length_set, I.len, Nat.reduceLT, if_true, boolK, bcase]
    refine .skip ?_
    simp only [seqQ]
    refine .block (.seq (.regionW ?_))
    have hxe : x ∈ es := (List.mem_filter.1 hx).1
    have hxn : x.born ∉ vs.map (·.born) := by
      have := (List.mem_filter.1 hx).2
      simpa using this
    have hmh : (upd hh it (Ob.miter m c (List.map (fun x => x.born) vs ++ [x.born]) c)) m = some (.map es c) := by rw [upd_other _ _ hmi]; exact I.sub m _ hm
    have hfind : es.find? (fun y => y.born == x.born) = some x := by
      cases hf : es.find? (fun y => y.born == x.born) with
      | none =>
        have := List.find?_eq_none.1 hf x hxe
        simp at this
      | some y =>
        have hy := List.mem_of_find?_eq_some hf
        have hyb : y.born = x.born := by have := List.find?_some hf; simpa using this
        have hp' : es.Pairwise (fun a b => a.born ≠ b.born) := by simpa [List.Nodup, List.pairwise_map] using hnd
        rcases List.mem_iff_getElem.1 hxe with ⟨i, hi, rfl⟩
        rcases List.mem_iff_getElem.1 hy with ⟨j, hj, rfl⟩
        rcases Nat.lt_trichotomy i j with h | h | h
        · exact absurd hyb.symm (List.pairwise_iff_getElem.1 hp' i j hi hj h)
        · subst h; rfl
        · exact absurd hyb (List.pairwise_iff_getElem.1 hp' j i hj hi h)
    simp only [opsW, wantK, bcase, stepV, opK, quietOp, eK, qK, getK, putE, List.getElem?_set, List.length_set, I.len, I.e11, Nat.reduceLT, if_true, Nat.reduceEqDiff, if_false]
    unfold entryMOp
    simp only [ptr, upd_same, mapK, hmh, BEq.rfl, chk, List.getLast?_concat, optK, hfind]
    simp only [extractK, tup, nthK, List.getElem?_cons_zero, getK, List.getElem?_set, List.length_set, I.len, Nat.reduceLT, if_true, Nat.reduceEqDiff, if_false]
    simp only [seqQ]
    refine .regionW ?_
    simp only [opsW, wantK, bcase, stepV, opK, quietOp, eK, qK, getK, putE, partsK, List.getElem?_set, List.length_set, I.len, I.e3, Nat.reduceLT, if_true, Nat.reduceEqDiff, if_false]
    have hxk : one x.key = true := by
      have : x.key ∈ es.map (·.key) := List.mem_map.2 ⟨x, hxe, rfl⟩
      rw [hns] at this
      obtain ⟨z, _, hz'⟩ := List.mem_map.1 this
      rw [← hz']; rfl
    have hitn : (upd hh it (Ob.miter m c (List.map (fun x => x.born) vs ++ [x.born]) c)) it = some (.miter m c (List.map (fun x => x.born) vs ++ [x.born]) c) := upd_same _ _ _
    refine bs97 _ _ _ x.key hxk (fun bs hbs => ?_) rfl
    have hbsit : bs ≠ it := fun h => by subst h; rw [hitn] at hbs; cases hbs
    rw [upd_other _ _ hbsit] at hbs
    have hbsh : h bs = none := by
      cases hx : h bs with
      | none => rfl
      | some y => rw [I.sub _ _ hx] at hbs; cases hbs
    simp only [argsK, getK, List.getElem?_set, List.length_set, I.len, Nat.reduceLT, if_true, Nat.reduceEqDiff, if_false, builtinE]
    refine ap97 _ _ _ _ ?_
    simp only [appK, lenOfK, srcK, cellsK, upd_same]
    refine chk_true (by simp) ?_
    simp only [List.drop_zero, Nat.mul_one, List.take_succ_cons, List.take_zero]
    have hvl : vs.length < es.length := by
      have hp : (vs ++ [x]).length ≤ es.length := by
        have nodup' : (vs ++ [x]).Nodup := by
          have h1 : vs.Pairwise (fun a b => a.born ≠ b.born) := by simpa [List.Nodup, List.pairwise_map] using I.nd
          refine List.nodup_append.2 ⟨h1.imp fun h e => h (by rw [e]), by simp, fun a ha b hb => ?_⟩
          simp only [List.mem_singleton] at hb
          subst hb
          intro hax
          subst hax
          exact hxn (List.mem_map.2 ⟨_, ha, rfl⟩)
        exact len_le_of nodup' fun y hy => by
          rcases List.mem_append.1 hy with hy | hy
          · exact I.mem y hy
          · simp only [List.mem_singleton] at hy; subst hy; exact hxe
      simp only [List.length_append, List.length_cons, List.length_nil] at hp
      omega
    have fin : ∀ (sv' : Value) (b2 : Nat) (o2 : Ob) (ee : Env), h b2 = none → b2 ≠ it → ee.length = 23 → ee[3]? = some (some sv') → ee[11]? = some (some (ptr it 0)) →
        (∃ b' cap rest, sv' = .slice (some ⟨b', 0, none⟩) (vs.length + 1) cap ∧ (upd (upd (upd hh it (Ob.miter m c (List.map (fun x => x.born) vs ++ [x.born]) c)) bs (Ob.cells [x.key] true)) b2 o2) b' = some (.cells (vs.map (·.key) ++ [x.key] ++ rest) true) ∧ rest.length + (vs.length + 1) = cap ∧ h b' = none ∧ b' ≠ it) →
        ∃ mm, mm < n ∧ ∃ vs2 sv2, BInv h m c es it mm ee (upd (upd (upd hh it (Ob.miter m c (List.map (fun x => x.born) vs ++ [x.born]) c)) bs (Ob.cells [x.key] true)) b2 o2) vs2 sv2 := by
      intro sv' b2 o2 ee hb2 hb2it hl3 h3 h11 hout
      refine ⟨n - 1, by have := I.cnt; omega, vs ++ [x], sv', hl3, h3, h11, by have := I.cnt; simp; omega, ?_, ?_, ?_, ?_, ?_⟩
      · rw [upd_other _ _ (Ne.symm hb2it), upd_other _ _ (Ne.symm hbsit), upd_same]; simp
      · exact ((I.sub.upd_right hit _).upd_right hbsh _).upd_right hb2 _
      · intro y hy
        rcases List.mem_append.1 hy with hy | hy
        · exact I.mem y hy
        · simp only [List.mem_singleton] at hy; subst hy; exact hxe
      · rw [List.map_append, List.map_cons, List.map_nil]
        refine List.nodup_append.2 ⟨I.nd, by simp, fun a ha b hb => ?_⟩
        simp only [List.mem_singleton] at hb
        subst hb
        intro hax
        subst hax
        exact hxn ha
      · obtain ⟨b', cap, rest, h1, h2, h3, h4, h5⟩ := hout
        exact .inr ⟨b', cap, rest, by simpa using h1, by simp, by simpa using h2, by simpa using h3, h4, h5⟩
    have envs : ∀ v : Value, ((((((((((List.set e 12 (some (Value.tuple #[Value.bool true, x.key, x.val]))).set 13 (some (Value.bool true))).set 14 (some (Value.tuple #[x.key, x.val]))).set 15 (some x.key)).set 4 (some x.key)).set 16 (some sv)).set 17 (some x.key)).set
        18 (some (Value.slice (some { block := bs, off := 0 }) 1 1))).set 19 (some v)).set 3 (some v)).length = 23 ∧
        ((((((((((List.set e 12 (some (Value.tuple #[Value.bool true, x.key, x.val]))).set 13 (some (Value.bool true))).set 14 (some (Value.tuple #[x.key, x.val]))).set 15 (some x.key)).set 4 (some x.key)).set 16 (some sv)).set 17 (some x.key)).set
        18 (some (Value.slice (some { block := bs, off := 0 }) 1 1))).set 19 (some v)).set 3 (some v))[3]? = some (some v) ∧
        ((((((((((List.set e 12 (some (Value.tuple #[Value.bool true, x.key, x.val]))).set 13 (some (Value.bool true))).set 14 (some (Value.tuple #[x.key, x.val]))).set 15 (some x.key)).set 4 (some x.key)).set 16 (some sv)).set 17 (some x.key)).set
        18 (some (Value.slice (some { block := bs, off := 0 }) 1 1))).set 19 (some v)).set 3 (some v))[11]? = some (some (ptr it 0)) := by
      intro v
      refine ⟨by simp [I.len], ?_, ?_⟩
      · simp only [List.getElem?_set, List.length_set, I.len, Nat.reduceLT, if_true]
      · simp only [List.getElem?_set, List.length_set, I.len, I.e11, Nat.reduceLT, if_true, Nat.reduceEqDiff, if_false]
    have h1000 : vs.length + 1 ≤ 16777216 := by omega
    rcases I.out with ⟨hvs, hsv⟩ | ⟨b', cap, rest, hsv, hvn, hb', hcap, hfr, hbit⟩
    · subst hsv
      simp only [appTail, sliceK, srcK]
      refine chk_true (by decide) ⟨fun h => absurd h (by omega), fun _ => ?_⟩
      intro b2 c' hb2 hc'
      obtain ⟨he1, he2, he3⟩ := envs (.slice (some ⟨b2, 0, none⟩) (0 + 1) c')
      have hb2bs : b2 ≠ bs := fun h => by subst h; rw [upd_same] at hb2; cases hb2
      rw [upd_other _ _ hb2bs] at hb2
      have hb2it : b2 ≠ it := fun h => by subst h; rw [upd_same] at hb2; cases hb2
      rw [upd_other _ _ hb2it] at hb2
      have hb2h : h b2 = none := by
        cases hx : h b2 with
        | none => rfl
        | some y => rw [I.sub _ _ hx] at hb2; cases hb2
      refine fin _ b2 _ _ hb2h hb2it he1 he2 he3 ⟨b2, c', repL (c' - 1) [Value.int .i64 0], by subst hvs; rfl, ?_, ?_, hb2h, hb2it⟩
      · rw [upd_same]; subst hvs; simp
      · subst hvs; rw [repL_length]; simp; omega
    · subst hsv
      have hb'bs : b' ≠ bs := fun h => by subst h; rw [hbs] at hb'; cases hb'
      have hb'2 : (upd (upd hh it (Ob.miter m c (List.map (fun x => x.born) vs ++ [x.born]) c)) bs (Ob.cells [x.key] true)) b' = some (.cells (vs.map (·.key) ++ rest) true) := by
        rw [upd_other _ _ hb'bs, upd_other _ _ hbit]; exact hb'
      simp only [appTail, sliceK, srcK]
      refine chk_true (by simpa using h1000) ⟨fun hle => ?_, fun hgt => ?_⟩
      · obtain ⟨he1, he2, he3⟩ := envs (.slice (some ⟨b', 0, none⟩) (vs.length + 1) cap)
        simp only [wcellsK, hb'2]
        refine chk_true (by simp [hxk]; omega) ?_
        obtain ⟨r0, rest', hr⟩ : ∃ r0 rest', rest = r0 :: rest' := by
          cases rest with
          | nil => simp at hcap; omega
          | cons a l => exact ⟨a, l, rfl⟩
        have hov : over (vs.map (·.key) ++ rest) (0 + vs.length * 1) [x.key] = vs.map (·.key) ++ [x.key] ++ rest' := by
          subst hr
          have hvlen : (vs.map (·.key)).length = vs.length := by simp
          unfold over
          rw [show 0 + vs.length * 1 = vs.length by omega, ← hvlen, List.take_left, show (vs.map (·.key)).length + [x.key].length = (vs.map (·.key)).length + 1 by rfl, List.drop_append]
          simp
        rw [hov]
        refine fin _ b' _ _ hfr hbit he1 he2 he3 ⟨b', cap, rest', rfl, by rw [upd_same], ?_, hfr, hbit⟩
        subst hr
        simp only [List.length_cons] at hcap
        omega
      · have hr : rest = [] := by
          cases rest with
          | nil => rfl
          | cons a l => simp only [List.length_cons] at hcap; omega
        subst hr
        simp only [cellsK, hb'2]
        refine chk_true (by simp) ?_
        intro b2 c' hb2 hc'
        obtain ⟨he1, he2, he3⟩ := envs (.slice (some ⟨b2, 0, none⟩) (vs.length + 1) c')
        have hb2bs : b2 ≠ bs := fun h => by subst h; rw [upd_same] at hb2; cases hb2
        rw [upd_other _ _ hb2bs] at hb2
        have hb2it : b2 ≠ it := fun h => by subst h; rw [upd_same] at hb2; cases hb2
        rw [upd_other _ _ hb2it] at hb2
        have hb2h : h b2 = none := by
          cases hx : h b2 with
          | none => rfl
          | some y => rw [I.sub _ _ hx] at hb2; cases hb2
        refine fin _ b2 _ _ hb2h hb2it he1 he2 he3 ⟨b2, c', repL (c' - (vs.length + 1)) [Value.int .i64 0], rfl, ?_, ?_, hb2h, hb2it⟩
        · rw [upd_same]
          have hvlen : (vs.map (·.key)).length = vs.length := by simp
          simp only [List.append_nil, List.drop_zero, Nat.mul_one, ← hvlen, List.take_length]
        · rw [repL_length]; simp; omega
end Go.Sl
/-
  wal.Txn.Blocks as the evaluator answers it.
-/
namespace Go.Sl
open Go Go.Proofs
noncomputable def insN (n : Nat) (l : List Nat) : List Nat := List.rec (motive := fun _ => List Nat) [n] (fun m tl ih => cond (Nat.ble n m) (n :: m :: tl) (m :: ih)) l
theorem insN_cons (n m : Nat) (l : List Nat) : insN n (m :: l) = cond (Nat.ble n m) (n :: m :: l) (m :: insN n l) := rfl
noncomputable def intKey (a : AV) (k : Nat → Bool) : Bool := match a with
  | .v (.int .i64 (.ofNat n)) => k n
  | _ => false
theorem intKey_elim {a : AV} {k : Nat → Bool} (e : intKey a k = true) : ∃ n : Nat, a = .v (.int .i64 (.ofNat n)) ∧ k n = true := by
  unfold intKey at e
  split at e
  · exact ⟨_, rfl, e⟩
  · cases e
noncomputable def natsM : List (AV × AV × Nat) → List Nat → (List Nat → Bool) → Bool :=
  fun es => List.rec (motive := fun _ => List Nat → (List Nat → Bool) → Bool) (fun acc k => k acc) (fun e _ ih acc k => intKey e.1 fun n => ih (insN n acc) k) es
noncomputable def bornsM (cl : Nat) : List (AV × AV × Nat) → Nat → Bool :=
  fun es => List.rec (motive := fun _ => Nat → Bool) (fun _ => true) (fun e _ ih lo => cond (Nat.ble lo e.2.2) (cond (Nat.blt e.2.2 cl) (ih (e.2.2 + 1)) false) false) es
noncomputable def blocksM (args : List AV) (H : AH) (k : AV → AH → Bool) : Bool := match args with
  | [.ptr i o] => blkE H i fun c _ _ => optE (nth c (o + 1)) fun m => mapsE m H fun _ es cl => chkE (bornsM cl es 0) (natsM es [] fun l => match l with
    | [] => k (.v (.slice none 0 0)) H
    | n :: l => lenC (n :: l) 0 fun z => chkE (Nat.ble z 1000) (growE H ((n :: l).map fun (n : Nat) => .v (.int .i64 n)) 1 z k))
  | _ => false
theorem insN_perm (n : Nat) : ∀ l, (insN n l).Perm (n :: l) := by
  intro l
  induction l with
  | nil => exact .refl _
  | cons m l ih =>
    rw [insN_cons]
    cases Nat.ble n m with
    | true => exact .refl _
    | false => exact (ih.cons m).trans (.swap n m l)
theorem insN_sorted (n : Nat) : ∀ {l : List Nat}, l.Pairwise (· ≤ ·) → (insN n l).Pairwise (· ≤ ·) := by
  intro l
  induction l with
  | nil => intro _; exact List.pairwise_singleton _ _
  | cons m l ih =>
    intro h
    rw [insN_cons]
    rw [List.pairwise_cons] at h
    cases hb : Nat.ble n m with
    | true =>
      have hnm : n ≤ m := by simpa using hb
      refine List.pairwise_cons.2 ⟨fun a ha => ?_, List.pairwise_cons.2 h⟩
      rcases List.mem_cons.1 ha with rfl | ha
      · exact hnm
      · exact Nat.le_trans hnm (h.1 a ha)
    | false =>
      have hmn : m ≤ n := by
        rcases Nat.lt_or_ge m n with h1 | h1
        · omega
        · have : Nat.ble n m = true := by simpa using h1
          rw [this] at hb; cases hb
      refine List.pairwise_cons.2 ⟨fun a ha => ?_, ih h.2⟩
      rcases List.mem_cons.1 ((insN_perm n l).mem_iff.1 ha) with rfl | ha
      · exact hmn
      · exact h.1 a ha
theorem natsM_elim {ρ : Names} : ∀ {es : List (AV × AV × Nat)} {es' : List MapEntry} {acc : List Nat} {k : List Nat → Bool}, natsM es acc k = true → RM ρ es es' → acc.Pairwise (· ≤ ·) →
    ∃ (ns : List Nat) (l : List Nat), k l = true ∧ es'.map (·.key) = intsV (ns.map Int.ofNat) ∧ l.Perm (ns ++ acc) ∧ l.Pairwise (· ≤ ·) := by
  intro es
  induction es with
  | nil => intro es' acc k e g ha; cases g; exact ⟨[], acc, e, rfl, .refl _, ha⟩
  | cons x es ih =>
    intro es' acc k e g ha
    cases g with
    | cons g1 g2 g3 g =>
    rename_i a b n y es'
    have e : intKey a (fun n => natsM es (insN n acc) k) = true := e
    obtain ⟨z, rfl, e2⟩ := intKey_elim e
    obtain ⟨ns, l, h1, h2, h3, h4⟩ := ih e2 g (insN_sorted z ha)
    generalize hy : y.key = yk at g1
    cases g1
    refine ⟨z :: ns, l, h1, ?_, ?_, h4⟩
    · simp only [List.map_cons, h2, intsV, hy]
    · refine h3.trans ?_
      refine (List.Perm.append_left ns (insN_perm z acc)).trans ?_
      exact List.perm_middle
theorem bornsM_elim {ρ : Names} {cl : Nat} : ∀ {es : List (AV × AV × Nat)} {es' : List MapEntry} {lo : Nat}, bornsM cl es lo = true → RM ρ es es' → (∀ e ∈ es', lo ≤ e.born ∧ e.born < cl) ∧ (es'.map (·.born)).Nodup := by
  intro es
  induction es with
  | nil => intro es' lo e g; cases g; exact ⟨by simp, .nil⟩
  | cons x es ih =>
    intro es' lo e g
    cases g with
    | cons g1 g2 g3 g =>
    rename_i a b n y es'
    have e : cond (Nat.ble lo n) (cond (Nat.blt n cl) (bornsM cl es (n + 1)) false) false = true := e
    cases h1 : Nat.ble lo n with
    | false => rw [h1] at e; cases e
    | true =>
      rw [h1] at e
      cases h2 : Nat.blt n cl with
      | false => rw [h2] at e; cases e
      | true =>
        rw [h2] at e
        have h1 : lo ≤ n := by simpa using h1
        have h2 : n < cl := by
          have : n + 1 ≤ cl := by simpa [Nat.blt] using h2
          omega
        obtain ⟨h3, h4⟩ := ih e g
        refine ⟨fun z hz => ?_, ?_⟩
        · rcases List.mem_cons.1 hz with rfl | hz
          · rw [g3]; exact ⟨h1, h2⟩
          · have := h3 z hz; exact ⟨by omega, this.2⟩
        · rw [List.map_cons, List.nodup_cons]
          refine ⟨fun hm => ?_, h4⟩
          obtain ⟨z, hz, hzb⟩ := List.mem_map.1 hm
          have := (h3 z hz).1
          rw [hzb, g3] at this
          omega
theorem sorted_merge {l ns : List Nat} (hp : l.Perm ns) (hs : l.Pairwise (· ≤ ·)) : (ns.map Int.ofNat).mergeSort leI = l.map Int.ofNat := by
  have tr : ∀ a b c : Int, leI a b = true → leI b c = true → leI a c = true := fun a b c h1 h2 => by simp only [leI, decide_eq_true_eq] at *; omega
  have to : ∀ a b : Int, (leI a b || leI b a) = true := fun a b => by simp only [leI, Bool.or_eq_true, decide_eq_true_eq]; omega
  refine List.Perm.eq_of_pairwise (le := fun a b => leI a b = true) (fun a b _ _ h1 h2 => ?_) (List.pairwise_mergeSort tr to _) ?_ ((List.mergeSort_perm _ leI).trans (hp.symm.map _))
  · simp only [leI, decide_eq_true_eq] at h1 h2
    omega
  · refine List.pairwise_map.2 (hs.imp fun {a b} h => ?_)
    simp only [leI, decide_eq_true_eq]
    exact Int.ofNat_le.2 h
theorem blocksM_ok (hs : SortA Tryz.prog 141) (hn : SortNil Tryz.prog 141) : ExtOk Tryz.prog 63 blocksM := by
  intro args args' H h ρ k kk e r g ok
  unfold blocksM at e
  split at e
  · rename_i i o
    obtain ⟨c, wr, gg, hi, e⟩ := blkE_elim e
    obtain ⟨m, hm, e⟩ := optE_elim e
    rw [nth_eq] at hm
    obtain ⟨b, cap, l', rest, hb, hh, hl, _⟩ := r.cells hi
    obtain ⟨v, hv, gm⟩ := hl.get hm
    obtain ⟨mi, es, cl, mb, mcap, es', _, _, rfl, hmb, ges, e⟩ := mapsE_elim e r gm
    obtain ⟨hbo, e⟩ := chkE_elim e
    obtain ⟨hb1, hb2⟩ := bornsM_elim hbo ges
    obtain ⟨ns, l, e, hk, hp, hsd⟩ := natsM_elim e ges .nil
    rw [List.append_nil] at hp
    obtain ⟨p, rfl, gp⟩ := g.one
    cases gp with
    | ptr hp' =>
    rw [hb] at hp'; cases hp'
    have hc : (l' ++ rest)[o + 1]? = some (.map (some mb)) := by
      have hlt : o + 1 < l'.length := by
        rcases Nat.lt_or_ge (o + 1) l'.length with h | h
        · exact h
        · rw [List.getElem?_eq_none h] at hv; cases hv
      rw [List.getElem?_append_left hlt]; exact hv
    have hlen : es'.length = ns.length := by have := congrArg List.length hk; simpa [intsV] using this
    have hll : l.length = ns.length := hp.length_eq
    cases l with
    | nil =>
      have hes : es' = [] := List.eq_nil_of_length_eq_zero (by rw [hlen, ← hll]; rfl)
      refine .inl ⟨by kernel_rfl, blocks_A hs hn hh hc hmb (fun e he => (hb1 e he).2) hb2 _ hk (by rw [hes]; simp) (fun _ => ?_) (fun h => absurd hes h)⟩
      exact ok.here r (.v _) e
    | cons n l =>
      have e := lenC_elim _ _ _ e
      obtain ⟨hz, e⟩ := chkE_elim e
      rw [Nat.zero_add] at hz e
      have hz : (n :: l).length ≤ 1000 := by simpa using hz
      refine .inl ⟨by kernel_rfl, blocks_A hs hn hh hc hmb (fun e he => (hb1 e he).2) hb2 _ hk (by omega) (fun h => ?_) (fun _ b' cap' rest' hb' hcap => ?_)⟩
      · rw [h] at hlen; simp at hlen; rw [← hlen] at hll; simp at hll
      · rw [sorted_merge hp hsd]
        have hrl : RL ρ ((n :: l).map fun (n : Nat) => AV.v (.int .i64 n)) (intsV ((n :: l).map Int.ofNat)) := by
          have := RL.vs (ρ := ρ) (intsV ((n :: l).map Int.ofNat))
          simpa [intsV, Function.comp_def] using this
        rw [show es'.length = (n :: l).length by rw [hlen, hll]] at hcap ⊢
        refine growE_ok r e hrl ?_ (by omega) ok hb'
        simp only [intsV, List.length_append, List.length_map]; omega
  · cases e
end Go.Sl
/-
  DERIVED: THE SHELF's CONTRACTS AT THIS DUMP, IN PLAIN WORDS (tools/lay-plain.mjs out of 'YtgelbhclfnpedaaGreatDoorShf.lean', which tools/lay-shelf.mjs wrote): THE SAME DECLARATIONS UNDER THE SAME NAMES: 'import', 'namespace', 'open', 'def', 'theorem' AND NOTHING ELSE: no command of the shelf's: FOR A HAND-IN. Each laying: the table of numbers ('.._ren') and one theorem, a field a fact of the dump's own or the kernel's comparison; each contract: ONE APPLICATION.
-/
namespace Go.Proofs
open Go.Shelf
def Tryz.lays189_ren : Go.Shelf.Ren := ⟨fun | 189 => 141 | 125 => 204 | 257 => 203 | 128 => 245 | 129 => 246 | 294 => 236 | 295 => 237 | 296 => 238 | 297 => 239 | 298 => 240 | 299 => 241 | 216 => 242 | 300 => 243 | 301 => 244 | 328 => 256 | 329 => 257 | 330 => 258 | 331 => 259 | 332 => 260 | 215 => 261 | 343 => 267 | n => n, fun | 28 => 97 | 3 => 3 | 46 => 319 | 0 => 0 | 51 => 55 | 53 => 422 | 4 => 4 | 183 => 415 | 182 => 414 | 131 => 394 | 5 => 5 | 9 => 9 | 218 => 430 | 222 => 434 | 228 => 440 | 229 => 165 | n => n, fun | n => n⟩
theorem Tryz.lays189 : Go.Proofs.Lays.n189 Tryz.prog Tryz.lays189_ren := {
  mixed := by kernel_rfl
  f125 := Tryz.func204.trans (congrArg some (by kernel_rfl))
  f128 := Tryz.func245.trans (congrArg some (by kernel_rfl))
  f129 := Tryz.func246.trans (congrArg some (by kernel_rfl))
  f189 := Tryz.func141.trans (congrArg some (by kernel_rfl))
  f215 := Tryz.func261.trans (congrArg some (by kernel_rfl))
  f216 := Tryz.func242.trans (congrArg some (by kernel_rfl))
  f257 := Tryz.func203.trans (congrArg some (by kernel_rfl))
  f294 := Tryz.func236.trans (congrArg some (by kernel_rfl))
  f295 := Tryz.func237.trans (congrArg some (by kernel_rfl))
  f296 := Tryz.func238.trans (congrArg some (by kernel_rfl))
  f297 := Tryz.func239.trans (congrArg some (by kernel_rfl))
  f298 := Tryz.func240.trans (congrArg some (by kernel_rfl))
  f299 := Tryz.func241.trans (congrArg some (by kernel_rfl))
  f300 := Tryz.func243.trans (congrArg some (by kernel_rfl))
  f301 := Tryz.func244.trans (congrArg some (by kernel_rfl))
  f328 := Tryz.func256.trans (congrArg some (by kernel_rfl))
  f329 := Tryz.func257.trans (congrArg some (by kernel_rfl))
  f330 := Tryz.func258.trans (congrArg some (by kernel_rfl))
  f331 := Tryz.func259.trans (congrArg some (by kernel_rfl))
  f332 := Tryz.func260.trans (congrArg some (by kernel_rfl))
  f343 := Tryz.func267.trans (congrArg some (by kernel_rfl))
  t0 := Tryz.underlying0
  a0 := Tryz.isAgg0
  z0 := Tryz.sizeOf0
  v0 := Tryz.zeroValue0
  t3 := Tryz.underlying3
  a3 := Tryz.isAgg3
  z3 := Tryz.sizeOf3
  v3 := Tryz.zeroValue3
  t4 := Tryz.underlying4
  a4 := Tryz.isAgg4
  z4 := Tryz.sizeOf4
  v4 := Tryz.zeroValue4
  t5 := Tryz.underlying5
  a5 := Tryz.isAgg5
  z5 := Tryz.sizeOf5
  v5 := Tryz.zeroValue5
  t9 := Tryz.underlying9
  a9 := Tryz.isAgg9
  z9 := Tryz.sizeOf9
  v9 := Tryz.zeroValue9
  t28 := Tryz.underlying97
  a28 := Tryz.isAgg97
  z28 := Tryz.sizeOf97
  v28 := Tryz.zeroValue97
  t46 := Tryz.underlying319
  a46 := Tryz.isAgg319
  z46 := Tryz.sizeOf319
  v46 := Tryz.zeroValue319
  t51 := Tryz.underlying55
  a51 := Tryz.isAgg55
  z51 := Tryz.sizeOf55
  v51 := Tryz.zeroValue55
  t53 := Tryz.underlying422
  a53 := Tryz.isAgg422
  z53 := Tryz.sizeOf422
  v53 := Tryz.zeroValue422
  t131 := Tryz.underlying394
  a131 := Tryz.isAgg394
  z131 := Tryz.sizeOf394
  v131 := Tryz.zeroValue394
  t182 := Tryz.underlying414
  a182 := Tryz.isAgg414
  z182 := Tryz.sizeOf414
  v182 := Tryz.zeroValue414
  t183 := Tryz.underlying415
  a183 := Tryz.isAgg415
  z183 := Tryz.sizeOf415
  v183 := Tryz.zeroValue415
  t218 := Tryz.underlying430
  a218 := Tryz.isAgg430
  z218 := Tryz.sizeOf430
  v218 := Tryz.zeroValue430
  t222 := Tryz.underlying434
  a222 := Tryz.isAgg434
  z222 := Tryz.sizeOf434
  v222 := Tryz.zeroValue434
  t228 := Tryz.underlying440
  a228 := Tryz.isAgg440
  z228 := Tryz.sizeOf440
  v228 := Tryz.zeroValue440
  t229 := Tryz.underlying165
  a229 := Tryz.isAgg165
  z229 := Tryz.sizeOf165
  v229 := Tryz.zeroValue165 }
end Go.Proofs
/-
  slices.Sort at []int, out of the library's contract.
-/
namespace Go.Sl
open Go Go.Proofs
theorem sortA_ok : SortA Tryz.prog 141 := by
  intro b cap zs h rest kk hb hz hl hk
  refine .inl ⟨by kernel_rfl, fun w r => ?_⟩
  have hlt := r.lt hb
  obtain ⟨x, hx, T, fr, rfl, hf⟩ := r b _ hb
  have hH : Sort.Holds (Value.int .i64) w b 0 zs.toArray := by
    intro j hj
    have hj : j < zs.length := by simpa using hj
    have hj2 : j < (intsV zs ++ rest).length := by simp [intsV]; omega
    rw [Nat.zero_add]
    refine ⟨?_, r.free hb hj2⟩
    rw [r.cell hb, List.getElem?_append_left (by simp [intsV]; omega)]
    simp [intsV, hj]
  have := Any.slices_Sort_int Tryz.lays189 b 0 cap zs w hH hlt (by omega)
  refine this.mono fun e w' ⟨he, n, os, hw⟩ => ?_
  have hsz : (zs.mergeSort leI).length = zs.length := List.length_mergeSort _
  have hcells : Sort.putCells (Value.int .i64) 0 (zs.mergeSort leI).toArray (intsV zs ++ rest).toArray = (intsV (zs.mergeSort leI) ++ rest).toArray := by
    apply Array.ext_getElem?
    intro k
    simp only [Sort.putCells, Array.getElem?_mapIdx, List.getElem?_toArray, Nat.zero_le, true_and, Nat.zero_add, Nat.sub_zero, List.size_toArray, hsz]
    by_cases hk : k < zs.length
    · rw [List.getElem?_append_left (by simp [intsV]; omega), List.getElem?_append_left (by simp [intsV, hsz]; omega)]
      have h1 : k < (zs.mergeSort leI).length := by omega
      simp [intsV, hk, h1]
    · rw [List.getElem?_append_right (by simp [intsV]; omega), List.getElem?_append_right (by simp [intsV, hsz]; omega)]
      simp only [intsV, List.length_map, hsz]
      cases rest[k - zs.length]? with
      | none => rfl
      | some y => simp [hk]
  have hat : ∀ y, y < w.heap.size → w'.heap[y]? = if y = b then some (.cells (intsV (zs.mergeSort leI) ++ rest).toArray T fr) else w.heap[y]? := by
    intro y hy
    rw [hw]
    show ((w.heap.modify b _) ++ os)[y]? = _
    rw [Array.getElem?_append_left (by simpa using hy), Array.getElem?_modify]
    by_cases hyb : y = b
    · subst hyb
      rw [if_pos rfl, if_pos rfl, hx]
      show some (Go.Obj.cells (Sort.putCells (Value.int .i64) 0 (zs.mergeSort leI).toArray (intsV zs ++ rest).toArray) T fr) = _
      rw [hcells]
    · rw [if_neg (Ne.symm hyb), if_neg hyb]
  refine ⟨_, _, he, hk, ?_, ?_⟩
  · intro y o ho
    simp only [upd] at ho
    split at ho
    · rename_i hyb; subst hyb; cases ho
      refine ⟨_, by rw [hat y hlt, if_pos rfl], T, fr, rfl, fun hwr j hj => hf hwr j ?_⟩
      simp only [intsV, List.length_append, List.length_map, hsz] at hj ⊢
      exact hj
    · rename_i hyb
      obtain ⟨z, hz1, hz2⟩ := r y o ho
      exact ⟨z, by rw [hat y (r.lt ho), if_neg hyb]; exact hz1, hz2⟩
  · have hro : ¬ (Ob.cells (intsV zs ++ rest) true).ro := by simp [Ob.ro]
    refine ⟨?_, fun y hy hr => ?_, fun y o ho => ?_, fun y o o' hy e1 e2 e3 => ?_, ?_, ?_, ?_⟩
    · rw [hw]
      show w.heap.size ≤ ((w.heap.modify b _) ++ os).size
      simp
    · have hyb : y ≠ b := fun h => by subst h; exact hro (hr _ hb)
      rw [hat y hy, if_neg hyb]
    · simp only [upd] at ho
      split at ho
      · rename_i hyb; subst hyb; exact .inl (by rw [hb]; simp)
      · exact .inl (by rw [ho]; simp)
    · by_cases hyb : y = b
      · subst hyb; rw [hb] at e1; cases e1; exact absurd e2 hro
      · rw [upd_other _ _ hyb, e1] at e3; cases e3; exact e2
    · rw [hw]; rfl
    · rw [hw]; rfl
    · rw [hw]; rfl
end Go.Sl
