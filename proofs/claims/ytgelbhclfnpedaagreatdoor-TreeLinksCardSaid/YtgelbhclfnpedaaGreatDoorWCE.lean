/-
  An evaluator for closed runs. Part 9: the same evaluator over primitives that may be left open: what is left of a piece of code when all that is fixed about it has been worked out.
-/
import Derived.Test.YtgelbhclfnpedaaGreatDoorWCD
set_option linter.all false
set_option linter.unusedVariables false
set_option linter.unusedSimpArgs false
namespace Go.Sl
open Go
abbrev K2 := AV → AH → Bool
abbrev QT := FuncId → Option (List Bool) → List AV → AH → K2 → Bool
structure Prims where
  pick : AV → AV → AV → (AV → Bool) → Bool
  want : AV → Bool → (K2 → Bool) → AH → K2 → Bool
  wantB : AV → Bool → Bool → Bool → Bool
  br : AV → Bool → Bool → Bool
  same : AV → AV → Bool
  sameLs : List AV → List AV → Bool
  chk : Bool → Bool → Bool
  zero : TypeId → (List AV → Bool) → Bool
  cells : AV → (List AV → Bool) → Bool
  rowOf : TypeId → Nat → List (Nat × AV) → (List AV → Bool) → Bool
  newRow : List AV → AH → (Nat → AH → Bool) → Bool
  alloc : TypeId → AH → K2 → Bool
  box : AV → AH → K2 → Bool
  build : TypeId → List (Nat × AV) → AH → K2 → Bool
  buildSlice : TypeId → Nat → List (Nat × AV) → AH → K2 → Bool
  load : TypeId → AV → AH → K2 → Bool
  store : TypeId → AV → AV → AH → K2 → Bool
  nilChk : AV → AH → K2 → Bool
  bin : BinOp → TypeId → AV → AV → AH → K2 → Bool
  un : UnOp → AV → AH → K2 → Bool
  conv : TypeId → TypeId → AV → AH → K2 → Bool
  s2ap : TypeId → AV → AH → K2 → Bool
  mkIface : TypeId → AV → AH → K2 → Bool
  mkMap : AH → K2 → Bool
  mkSlice : TypeId → AV → AV → AH → K2 → Bool
  slice : TypeId → AV → Option AV → Option AV → Option AV → AH → K2 → Bool
  fieldAddr : TypeId → AV → Nat → AH → K2 → Bool
  field : TypeId → AV → Nat → AH → K2 → Bool
  indexAddr : TypeId → AV → AV → AH → K2 → Bool
  index : TypeId → AV → AV → AH → K2 → Bool
  lookup : TypeId → AV → AV → Bool → AH → K2 → Bool
  mapUpd : TypeId → AV → AV → AV → AH → K2 → Bool
  mapEnt : TypeId → AV → AV → AH → K2 → Bool
  entStore : AV → AV → AV → AH → K2 → Bool
  range : TypeId → AV → AH → K2 → Bool
  next : AV → AH → K2 → Bool
  extract : AV → Nat → AH → K2 → Bool
  builtin : Builtin → List TypeId → List AV → AH → K2 → Bool
  callV : QT → AV → List AV → AH → K2 → Bool
  invoke : QT → AV → String → List AV → AH → K2 → Bool
  arg : List AV → (AV → List AV → Bool) → Bool
  none : List AV → Bool → Bool
noncomputable def pickR (a u v : AV) (k : AV → Bool) : Bool := boolE a fun b => cond b (k u) (k v)
noncomputable def wantR (a : AV) (want : Bool) (X : K2 → Bool) (H : AH) (k : K2) : Bool := match a with
  | .v (.bool b) => cond b (cond want (X k) (k (.v undef) H)) (cond want (k (.v undef) H) (X k))
  | .v (.tuple _) => k (.v undef) H
  | _ => false
noncomputable def wantBR (a : AV) (want : Bool) (x y : Bool) : Bool := match a with
  | .v (.bool b) => cond b (cond want x y) (cond want y x)
  | .v (.tuple _) => y
  | _ => false
noncomputable def brR (a : AV) (x y : Bool) : Bool := boolE a fun b => cond b x y
noncomputable def rowOfE (P : Program) (t : TypeId) (n : Nat) (ps : List (Nat × AV)) (kk : List AV → Bool) : Bool :=
  sliceTE P t fun el => sizeE P el fun s => zeroE P el fun z => lenC z 0 fun m => chkE (Nat.ble (n * s) 16777216 && Nat.beq m s && Nat.blt 0 s)
    (optE (triplesE (fun i => some (i * s, s)) ps) fun ts => repC z n fun z => fillE ts z kk)
noncomputable def callVR (Q : QT) (fv : AV) (vs : List AV) (H : AH) (k : K2) : Bool := match fv with
  | .fn i xs ys => Q i .none (xs ++ vs ++ ys) H k
  | _ => false
noncomputable def invokeR (P : Program) (Q : QT) (rv : AV) (name : String) (vs : List AV) (H : AH) (k : K2) : Bool := match rv with
  | .ifc t v => optE (methOf P t name) fun i => Q i .none (v :: vs) H k
  | _ => false
noncomputable def argR (l : List AV) (k : AV → List AV → Bool) : Bool := match l with
  | a :: l => k a l
  | [] => false
noncomputable def noneR (l : List AV) (k : Bool) : Bool := match l with
  | [] => k
  | _ => false
noncomputable def rc (P : Program) : Prims where
  pick := pickR
  want := wantR
  wantB := wantBR
  br := brR
  same := sameA
  sameLs := sameL
  chk := chkE
  zero := zeroE P
  cells a k := k (cellsE a)
  rowOf := rowOfE P
  newRow c H k := newE H c 0 k
  alloc := allocE P
  box := boxE
  build := buildE P
  buildSlice := buildSliceE P
  load := loadE P
  store := storeE P
  nilChk := nilChkE
  bin := binE P
  un := unE
  conv := convE P
  s2ap := s2apE P
  mkIface := mkIfaceE P
  mkMap := mkMapE
  mkSlice := mkSliceE P
  slice := sliceE P
  fieldAddr := fieldAddrE P
  field := fieldE P
  indexAddr := indexAddrE P
  index := indexE P
  lookup := lookupE P
  mapUpd := mapUpdE P
  mapEnt := mapEntE P
  entStore := entStoreE
  range := rangeE P
  next := nextE
  extract := extractE
  builtin := builtinE' P
  callV := callVR
  invoke := invokeR P
  arg := argR
  none := noneR
noncomputable def getO (A : AE) (x : Operand) : Option AV := match x with
  | .tmp t => A.get t
  | .const v => some (ofV v)
  | .global _ => none
  | .func f => some (.fn f [] [])
theorem getO_eq (A : AE) (x : Operand) (k : AV → Bool) : getE A x k = optE (getO A x) k := by cases x <;> rfl
section
variable (R : Prims) (P : Program) (Q : QT)
noncomputable def opG (op : Op) (A : AE) (H : AH) (k : K2) : Bool :=
  match op with
  | .move x => getE A x fun a => k a H
  | .assign x => getE A x fun a => k a H
  | .pick c x y => getE A c fun a => match getO A x, getO A y with
    | some u, some v => R.pick a u v fun w => k w H
    | _, _ => R.br a (getE A x fun a => k a H) (getE A y fun a => k a H)
  | .alloc t => R.alloc t H k
  | .box _ x => getE A x fun a => R.box a H k
  | .build t ps => partsE A ps.toList fun ps => R.build t ps H k
  | .buildSlice t n ps => partsE A ps.toList fun ps => R.buildSlice t n ps H k
  | .load t x => getE A x fun a => R.load t a H k
  | .store t x y => getE A x fun a => getE A y fun b => R.store t a b H k
  | .nilCheck x => getE A x fun a => R.nilChk a H k
  | .binOp op t x y _ => getE A x fun a => getE A y fun b => R.bin op t a b H k
  | .unOp op _ x => getE A x fun a => R.un op a H k
  | .convert s d x => getE A x fun a => R.conv s d a H k
  | .sliceToArrayPointer t x => getE A x fun a => R.s2ap t a H k
  | .makeInterface t x => getE A x fun a => R.mkIface t a H k
  | .makeFunc (.func f) xs ys => argsE A xs.toList fun xs => argsE A ys.toList fun ys => k (.fn f xs ys) H
  | .makeMap _ .none => R.mkMap H k
  | .makeSlice t x y => getE A x fun a => getE A y fun b => R.mkSlice t a b H k
  | .slice t x lo hi mx => getE A x fun a => optGE A lo fun lo => optGE A hi fun hi => optGE A mx fun mx => R.slice t a lo hi mx H k
  | .fieldAddr t x i => getE A x fun a => R.fieldAddr t a i H k
  | .field t x i => getE A x fun a => R.field t a i H k
  | .indexAddr t x i => getE A x fun a => getE A i fun b => R.indexAddr t a b H k
  | .index t x i => getE A x fun a => getE A i fun b => R.index t a b H k
  | .lookup t x i ok => getE A x fun a => getE A i fun b => R.lookup t a b ok H k
  | .mapUpdate t m i x => getE A m fun m => getE A i fun i => getE A x fun x => R.mapUpd t m i x H k
  | .insert t m i x => getE A m fun m => getE A i fun i => getE A x fun x => R.mapUpd t m i x H k
  | .mapEntry t m i => getE A m fun m => getE A i fun i => R.mapEnt t m i H k
  | .entryStore _ m i x => getE A m fun m => getE A i fun i => getE A x fun x => R.entStore m i x H k
  | .range t x => getE A x fun a => R.range t a H k
  | .next x true => getE A x fun a => R.next a H k
  | .extract x i => getE A x fun a => R.extract a i H k
  | .call { callee := .builtin b, args, argTypes } => argsE A args.toList fun as => R.builtin b argTypes.toList as H k
  | _ => false
theorem opG_eq (op : Op) (A : AE) (H : AH) (k : K2) : opG (rc P) op A H k = (opC P op).run A H k := by
  cases op <;> try rfl
  case pick c x y =>
    show (getE A c fun a => match getO A x, getO A y with
      | some u, some v => pickR a u v fun w => k w H
      | _, _ => brR a (getE A x fun a => k a H) (getE A y fun a => k a H)) = getE A c fun a => boolE a fun b => cond b (getE A x fun a => k a H) (getE A y fun a => k a H)
    congr 1
    funext a
    simp only [getO_eq]
    cases getO A x <;> cases getO A y <;> rfl
  case makeFunc f xs ys => cases f <;> rfl
  case makeMap t n => cases n <;> rfl
  case next x s => cases s <;> rfl
  case call c =>
    obtain ⟨callee, args, ts⟩ := c
    cases callee <;> rfl
theorem opG_run (o : Oper) (A : AE) (H : AH) (k : K2) : opG (rc P) o.op A H k = opE P o A H k := opG_eq P o.op A H k
theorem getE_congr {A : AE} {x : Operand} {k k' : AV → Bool} (h : ∀ a, k a = k' a) : getE A x k = getE A x k' := by rw [funext h]
theorem argsE_false (A : AE) : ∀ (l : List Operand), (argsE A l fun _ => false) = false := by
  intro l
  induction l with
  | nil => rfl
  | cons x l ih =>
    unfold argsE
    rw [getO_eq]
    cases getO A x with
    | none => rfl
    | some a => exact ih
noncomputable def callG (c : Call) (A : AE) (H : AH) (k : K2) : Bool :=
  match c.callee with
  | .value f => (match f with
    | .func i => argsE A c.args.toList fun vs => Q i .none vs H k
    | f => getE A f fun fv => argsE A c.args.toList fun vs => R.callV Q fv vs H k)
  | .invoke r name => getE A r fun rv => argsE A c.args.toList fun vs => R.invoke Q rv name vs H k
  | _ => false
theorem callG_eq (c : Call) (A : AE) (H : AH) (k : K2) : callG (rc P) Q c A H k = callE' P (fun i => Q i .none) c A H k := by
  unfold callG callE'
  have h1 : ∀ f : Operand, (getE A f fun fv => argsE A c.args.toList fun vs => (rc P).callV Q fv vs H k) = getE A f fun fv => (match fv with
      | .fn i xs ys => argsE A c.args.toList fun vs => Q i .none (xs ++ vs ++ ys) H k
      | _ => false) := by
    intro f
    refine getE_congr fun fv => ?_
    cases fv <;> first | rfl | exact argsE_false A _
  cases hc : c.callee with
  | value f =>
    dsimp only
    cases f with
    | func i =>
      show _ = argsE A c.args.toList fun vs => Q i .none ([] ++ vs ++ []) H k
      simp
    | tmp t => exact h1 _
    | const v => exact h1 _
    | global g => exact h1 _
  | invoke r name =>
    dsimp only
    refine getE_congr fun rv => ?_
    cases rv <;> first | rfl | exact argsE_false A _
  | _ => rfl
noncomputable def stepG (op : Op) (A : AE) (H : AH) (k : K2) : Bool := match op with
  | .call c => (match c.callee with
    | .builtin _ => opG R op A H k
    | _ => callG R Q c A H k)
  | _ => opG R op A H k
theorem stepG_eq (o : Oper) (A : AE) (H : AH) (k : K2) : stepG (rc P) Q o.op A H k = stepE P (fun i => Q i .none) o A H k := by
  unfold stepG stepE stepC
  cases hop : o.op with
  | call c =>
    dsimp only
    unfold callC
    cases hc : c.callee with
    | builtin b => exact opG_eq P _ A H k
    | value f => exact callG_eq P Q c A H k
    | invoke r n => exact callG_eq P Q c A H k
  | _ => exact opG_eq P _ A H k
noncomputable def wantG (ops : Array Oper) (o : Oper) (A : AE) (X : K2 → Bool) (H : AH) (k : K2) : Bool := match o.guard with
  | .none => X k
  | some (j, want) => optE (dstOf ops j) fun d => optE (A.get d) fun a => R.want a want X H k
theorem wantG_eq (ops : Array Oper) (o : Oper) (A : AE) (X : K2 → Bool) (H : AH) (k : K2) : wantG (rc P) ops o A X H k = wantE ops o A fun b => cond b (X k) (k (.v undef) H) := by
  unfold wantG wantE
  cases o.guard with
  | none => rfl
  | some g =>
    obtain ⟨j, want⟩ := g
    dsimp only
    congr 1
noncomputable def opsG (all : Array Oper) : List Oper → AE → AH → (AE → AH → Bool) → Bool
  | [], A, H, k => k A H
  | o :: os, A, H, k => wantG R all o A (fun kk => stepG R Q o.op A H kk) H fun a H => putAE A o.dst a fun A => opsG all os A H k
theorem opsG_eq (all : Array Oper) : ∀ (os : List Oper) (A : AE) (H : AH) (k : AE → AH → Bool), opsG (rc P) Q all os A H k = opsE P (fun i => Q i .none) all os A H k := by
  intro os
  induction os with
  | nil => intro A H k; rfl
  | cons o os ih =>
    intro A H k
    rw [opsE_cons]
    unfold opsG
    rw [wantG_eq]
    simp only [ih, stepG_eq]
noncomputable def chkG (rs : List Nat) (x y : Bool) : Bool := match rs with
  | [] => y
  | _ => R.chk x y
noncomputable def wantGB (ops : Array Oper) (o : Oper) (A : AE) (x y : Bool) : Bool := match o.guard with
  | .none => x
  | some (j, want) => optE (dstOf ops j) fun d => optE (A.get d) fun a => R.wantB a want x y
theorem wantGB_eq (ops : Array Oper) (o : Oper) (A : AE) (x y : Bool) : wantGB (rc P) ops o A x y = wantE ops o A fun b => cond b x y := by
  unfold wantGB wantE
  cases o.guard with
  | none => rfl
  | some g =>
    obtain ⟨j, want⟩ := g
    dsimp only
    congr 1
noncomputable def yieldG (ops : Array Oper) (y : Nat) (a : AV) (A : AE) (H : AH) : Bool := match ops[y]? with
  | .none => false
  | some o => wantGB R ops o A (chkE (quietOp P o) (opG R o.op A H fun a' _ => R.same a' a)) (R.same (.v undef) a)
theorem yieldG_eq (ops : Array Oper) (y : Nat) (a : AV) (A : AE) (H : AH) : yieldG (rc P) P ops y a A H = yieldE P ops y a A H := by
  unfold yieldG yieldE
  cases ops[y]? with
  | none => rfl
  | some o =>
    dsimp only
    rw [wantGB_eq]
    simp only [opG_run]
    try rfl
noncomputable def recheckG (ops : Array Oper) (rs : List Nat) (A : AE) (H : AH) : TakenE → Bool
  | [] => true
  | (y, a) :: T => cond (memN y rs) (R.chk (yieldG R P ops y a A H) (recheckG ops rs A H T)) (recheckG ops rs A H T)
theorem recheckG_eq (ops : Array Oper) (rs : List Nat) (A : AE) (H : AH) : ∀ T, recheckG (rc P) P ops rs A H T = recheckE P ops rs A H T := by
  intro T
  induction T with
  | nil => rfl
  | cons x T ih =>
    obtain ⟨y, a⟩ := x
    unfold recheckG recheckE
    rw [ih, yieldG_eq]; try rfl
theorem recheckE_nil (ops : Array Oper) (A : AE) (H : AH) : ∀ T, recheckE P ops [] A H T = true := by
  intro T
  induction T with
  | nil => rfl
  | cons x T ih => obtain ⟨y, a⟩ := x; exact ih
theorem chkG_eq (ops : Array Oper) (rs : List Nat) (A : AE) (H : AH) (T : TakenE) (y : Bool) : chkG (rc P) rs (recheckG (rc P) P ops rs A H T) y = chkE (recheckE P ops rs A H T) y := by
  rw [recheckG_eq]
  cases rs with
  | nil => rw [recheckE_nil]; rfl
  | cons a l => rfl
noncomputable def effG (ops : Array Oper) (i : Nat) (A : AE) (H : AH) (K : K2) : Bool := match ops[i]? with
  | .none => false
  | some o => wantG R ops o A (fun kk => stepG R Q o.op A H kk) H K
theorem effG_eq (ops : Array Oper) (i : Nat) (A : AE) (H : AH) (K : K2) : effG (rc P) Q ops i A H K = effE P (fun i => Q i .none) ops i A H K := by
  unfold effG effE
  cases ops[i]? with
  | none => rfl
  | some o => dsimp only; rw [wantG_eq]; simp only [stepG_eq]
noncomputable def lateG (o : Oper) (A : AE) (kk : List AV → LS → Bool) : Bool := match o.op with
  | .alloc t => R.zero t fun z => kk z .p
  | .box _ x => getE A x fun a => R.cells a fun c => kk c .p
  | .buildSlice t n ps => partsE A ps.toList fun ps => R.rowOf t n ps fun c => kk c (.s n)
  | _ => false
theorem lateG_eq (o : Oper) (A : AE) (kk : List AV → LS → Bool) : lateG (rc P) o A kk = lateE P o A kk := by
  unfold lateG lateE
  cases o.op <;> rfl
noncomputable def samePG (pd : PendE) (c : List AV) (f : LS) (r : Bool) : Bool := match pd with
  | .none => r
  | some (_, c', f') => R.chk (R.sameLs c' c) (chkE (sameLS f' f) r)
theorem samePG_eq (pd : PendE) (c : List AV) (f : LS) (r : Bool) : samePG (rc P) pd c f r = chkE (samePE pd c f) r := by
  cases pd with
  | none => rfl
  | some x =>
    obtain ⟨i, c', f'⟩ := x
    show chkE (sameL c' c) (chkE (sameLS f' f) r) = chkE (sameL c' c && sameLS f' f) r
    cases sameL c' c <;> cases sameLS f' f <;> rfl
noncomputable def drawG (ops : Array Oper) : List PS → PendE → TakenE → AE → AH → (AE → AH → Bool) → Bool
  | [], _, _, A, H, k => k A H
  | .q i :: s, pd, T, A, H, k => match ops[i]? with
    | .none => false
    | some o => wantG R ops o A (fun kk => chkE (quietOp P o) (opG R o.op A H kk)) H fun a _ => putAE A o.dst a fun A => drawG ops s pd ((i, a) :: T) A H k
  | .e i rs :: s, pd, T, A, H, k => effG R Q ops i A H fun a H' => putAE A (dstAt ops i) a fun A' => chkG R rs (recheckG R P ops rs A' H' T) (drawG ops s pd T A' H' k)
  | .p i l rs0 rs :: s, pd, T, A, H, k => match ops[l]? with
    | .none => false
    | some ol => lateG R ol A fun c f => chkE (dstInE A ol.dst) (samePG R pd c f (clearAE A ol.dst fun A0 => chkG R rs0 (recheckG R P ops rs0 A0 H T)
        (effG R Q ops i A0 H fun a H' => putAE A0 (dstAt ops i) a fun A' => chkG R rs (recheckG R P ops rs A' H' T) (drawG ops s (some (l, c, f)) T A' H' k))))
  | .l i rs :: s, pd, T, A, H, k => match ops[i]?, pd with
    | some ol, some (_, c, f) => R.chk (lateG R ol A fun c' f' => R.chk (R.sameLs c' c) (sameLS f' f)) (R.newRow c H fun b H' => putAE A ol.dst (lsA f b) fun A' =>
        chkG R rs (recheckG R P ops rs A' H' T) (drawG ops s .none T A' H' k))
    | _, _ => false
theorem drawG_eq (ops : Array Oper) : ∀ (s : List PS) (pd : PendE) (T : TakenE) (A : AE) (H : AH) (k : AE → AH → Bool), drawG (rc P) P Q ops s pd T A H k = drawE P (fun i => Q i .none) ops s pd T A H k := by
  intro s
  induction s with
  | nil => intro pd T A H k; rfl
  | cons x s ih =>
    intro pd T A H k
    cases x with
    | q i =>
      unfold drawG drawE
      cases ops[i]? with
      | none => rfl
      | some o =>
        dsimp only
        rw [wantG_eq]
        simp only [opG_run, ih]
    | e i rs =>
      unfold drawG drawE
      rw [effG_eq]
      simp only [chkG_eq, ih]
    | p i l rs0 rs =>
      unfold drawG drawE
      cases ops[l]? with
      | none => rfl
      | some ol =>
        dsimp only
        rw [lateG_eq]
        simp only [samePG_eq, chkG_eq, effG_eq, ih]
    | l i rs =>
      unfold drawG drawE
      cases ops[i]? with
      | none => rfl
      | some ol =>
        cases pd with
        | none => rfl
        | some x =>
          obtain ⟨j, c, f⟩ := x
          dsimp only
          simp only [lateG_eq, chkG_eq, ih]
          have h1 : (fun (c' : List AV) f' => (rc P).chk ((rc P).sameLs c' c) (sameLS f' f)) = fun c' f' => sameL c' c && sameLS f' f := by
            funext c' f'
            show chkE (sameL c' c) (sameLS f' f) = _
            cases sameL c' c <;> cases sameLS f' f <;> rfl
          rw [h1]; rfl
noncomputable def resG (A : AE) (H : AH) : List ResultVar → (List AV → Bool) → Bool
  | [], k => k []
  | .tmp t :: l, k => getE A (.tmp t) fun a => resG A H l fun as => k (a :: as)
  | .cell t ty :: l, k => getE A (.tmp t) fun p => R.load ty p H fun a _ => resG A H l fun as => k (a :: as)
theorem resG_eq (A : AE) (H : AH) : ∀ (l : List ResultVar) (k : List AV → Bool), resG (rc P) A H l k = resE P A H l k := by
  intro l
  induction l with
  | nil => intro k; rfl
  | cons x l ih =>
    intro k
    cases x with
    | tmp t => unfold resG resE; simp only [ih]
    | cell t ty => unfold resG resE; simp only [ih]; rfl
end
end Go.Sl
/-
  An evaluator for closed runs. Part 10: straight pieces of a function's code, from one place at which it is cut to the next ones.
-/
namespace Go.Sl
open Go
inductive Fr where
  | code (y : Code) (p : List Bool)
  | loop (c : Code) (p : List Bool)
  | block (id : Nat)
inductive Wk where
  | run (c : Code) (p : List Bool)
  | norm
  | exit (id : Nat)
structure Cx where
  R : Prims
  P : Program
  n : Nat
  pl : Nat → List PS
  cut : List Bool → Option (List Nat)
  Q : QT
  goto : List Bool → List AV → AH → Bool
  fin : AE → AH → Bool
noncomputable def valsG (A : AE) : List Nat → (List AV → Bool) → Bool
  | [], k => k []
  | t :: l, k => optE (A.get t) fun a => valsG A l fun as => k (a :: as)
noncomputable def gotoG (X : Cx) (A : AE) (lv : List Nat) (p : List Bool) (H : AH) : Bool := chkE (Nat.beq A.n X.n) (valsG A lv fun vs => X.goto p vs H)
noncomputable def sE (X : Cx) (n : Nat) : Wk → List Fr → AE → AH → Bool :=
  Nat.rec (motive := fun _ => Wk → List Fr → AE → AH → Bool) (fun _ _ _ _ => false)
    (fun _ ih w s A H => match w with
      | .run c p => (match c with
        | .skip => ih .norm s A H
        | .ret => X.fin A H
        | .exit id => ih (.exit id) s A H
        | .seq x y => ih (.run x (p ++ [false])) (.code y (p ++ [true]) :: s) A H
        | .cond c x y => getE A c fun a => X.R.br a (ih (.run x (p ++ [false])) s A H) (ih (.run y (p ++ [true])) s A H)
        | .block id c => ih (.run c (p ++ [false])) (.block id :: s) A H
        | .region id ops d => cond d (drawG X.R X.P X.Q ops (X.pl id) none [] A H fun A H => ih .norm s A H) (opsG X.R X.Q ops ops.toList A H fun A H => ih .norm s A H)
        | .loop _ => optE (X.cut p) fun lv => gotoG X A lv p H
        | _ => false)
      | .norm => (match s with
        | [] => X.fin A H
        | .code y p :: s => (match X.cut p with
          | none => ih (.run y p) s A H
          | some lv => gotoG X A lv p H)
        | .loop _ p :: _ => optE (X.cut p) fun lv => gotoG X A lv p H
        | .block _ :: s => ih .norm s A H)
      | .exit id => (match s with
        | [] => false
        | .block i :: s => cond (Nat.beq id i) (ih .norm s A H) (ih (.exit id) s A H)
        | .code _ _ :: s => ih (.exit id) s A H
        | .loop _ _ :: s => ih (.exit id) s A H)) n
theorem sE_succ (X : Cx) (n : Nat) (w : Wk) (s : List Fr) (A : AE) (H : AH) : sE X (n + 1) w s A H = (match w with
      | .run c p => (match c with
        | .skip => sE X n .norm s A H
        | .ret => X.fin A H
        | .exit id => sE X n (.exit id) s A H
        | .seq x y => sE X n (.run x (p ++ [false])) (.code y (p ++ [true]) :: s) A H
        | .cond c x y => getE A c fun a => X.R.br a (sE X n (.run x (p ++ [false])) s A H) (sE X n (.run y (p ++ [true])) s A H)
        | .block id c => sE X n (.run c (p ++ [false])) (.block id :: s) A H
        | .region id ops d => cond d (drawG X.R X.P X.Q ops (X.pl id) none [] A H fun A H => sE X n .norm s A H) (opsG X.R X.Q ops ops.toList A H fun A H => sE X n .norm s A H)
        | .loop _ => optE (X.cut p) fun lv => gotoG X A lv p H
        | _ => false)
      | .norm => (match s with
        | [] => X.fin A H
        | .code y p :: s => (match X.cut p with
          | none => sE X n (.run y p) s A H
          | some lv => gotoG X A lv p H)
        | .loop _ p :: _ => optE (X.cut p) fun lv => gotoG X A lv p H
        | .block _ :: s => sE X n .norm s A H)
      | .exit id => (match s with
        | [] => false
        | .block i :: s => cond (Nat.beq id i) (sE X n .norm s A H) (sE X n (.exit id) s A H)
        | .code _ _ :: s => sE X n (.exit id) s A H
        | .loop _ _ :: s => sE X n (.exit id) s A H)) := rfl
/-- The piece of code at a place, and what comes behind it. -/
def stepP : Option (Code × List Fr × List Bool) → Bool → Option (Code × List Fr × List Bool)
  | some (.seq x y, s, p), false => some (x, .code y (p ++ [true]) :: s, p ++ [false])
  | some (.seq _ y, s, p), true => some (y, s, p ++ [true])
  | some (.cond _ x _, s, p), false => some (x, s, p ++ [false])
  | some (.cond _ _ y, s, p), true => some (y, s, p ++ [true])
  | some (.block id c, s, p), false => some (c, .block id :: s, p ++ [false])
  | some (.loop c, s, p), false => some (c, .loop c p :: s, p ++ [false])
  | _, _ => none
def sub (body : Code) (p : List Bool) : Option (Code × List Fr × List Bool) := p.foldl stepP (some (body, [], []))
theorem sub_snoc {body : Code} {p : List Bool} {d : Bool} : sub body (p ++ [d]) = stepP (sub body p) d := by simp [sub, List.foldl_append]
variable {P : Program}
/-- A loop, from its round's beginning. -/
def LoopA (P : Program) (c : Code) (e : Env) (h : Hp) (k : Exit → Env → Hp → Prop) : Prop :=
  ∀ a w, EnvOk e a.tmps → Rep h w → ∀ Q : Exit → Act → World → Prop,
    (∀ ex e' h' a' w', k ex e' h' → EnvOk e' a'.tmps → a'.defers = a.defers → Rep h' w' → Ext h w h' w' → Q ex a' w') →
    ∀ (b : Frame) (k' : List Item) (cs : List Frame), ∃ ex a' w', Q ex a' w' ∧ Arrives P (lone (b.at a (.code c :: .inLoop c :: k')) cs w) b k' cs ex a' w'
theorem CodeA.ofLoop {c : Code} {e : Env} {h : Hp} {k : Exit → Env → Hp → Prop} (hl : LoopA P c e h k) : CodeA P (.loop c) e h k := by
  intro a w hE hr Q hQ b k' cs
  obtain ⟨ex, a', w', hq, harr⟩ := hl a w hE hr Q hQ b k' cs
  exact ⟨ex, a', w', hq, .of_steps (.one step_loop) harr⟩
theorem LoopA.unroll {c : Code} {e : Env} {h : Hp} {k : Exit → Env → Hp → Prop} (hc : CodeA P c e h fun ex e h => match ex with
    | .normal => LoopA P c e h k
    | ex => k ex e h) : LoopA P c e h k := by
  intro a w hE hr Q hQ b k' cs
  let Q' : Exit → Act → World → Prop := fun ex a' w' => match ex with
    | .normal => ∃ e' h', LoopA P c e' h' k ∧ EnvOk e' a'.tmps ∧ a'.defers = a.defers ∧ Rep h' w' ∧ Ext h w h' w'
    | ex => Q ex a' w'
  have hq := hc a w hE hr Q' (by
    intro ex e' h' a' w' hk hE' hd' hr' hx'
    cases ex with
    | normal => exact ⟨e', h', hk, hE', hd', hr', hx'⟩
    | _ => exact hQ _ e' h' a' w' hk hE' hd' hr' hx')
  obtain ⟨ex, a2, w2, hq, harr⟩ := hq b (.inLoop c :: k') cs
  cases ex with
  | normal =>
    obtain ⟨e', h', hk, hE', hd', hr', hx'⟩ := hq
    obtain ⟨ex, a3, w3, hq3, harr3⟩ := hk a2 w2 hE' hr' Q (fun ex e2 h2 a3 w3 hk3 hE3 hd3 hr3 hx3 => hQ ex e2 h2 a3 w3 hk3 hE3 (hd3.trans hd') hr3 (hx'.trans hx3)) b k' cs
    exact ⟨ex, a3, w3, hq3, .of_steps (Steps.trans harr (.one step_inLoop)) harr3⟩
  | exit id => exact ⟨_, a2, w2, hq, .pass (x := .inLoop c) rfl (fun _ _ => .inl (by simp)) harr⟩
  | goto l => exact ⟨_, a2, w2, hq, .pass (x := .inLoop c) rfl (fun _ _ => .inl (by simp)) harr⟩
  | ret => exact ⟨_, a2, w2, hq, .pass (x := .inLoop c) rfl (fun _ _ => .inl (by simp)) harr⟩
  | panic ch => exact ⟨_, a2, w2, hq, .pass (x := .inLoop c) rfl (fun _ _ => .inl (by simp)) harr⟩
  | outgrown => exact ⟨_, a2, w2, hq, .pass (x := .inLoop c) rfl (fun _ _ => .inl (by simp)) harr⟩
/-- What is asked behind a piece of code, by what comes behind it. -/
def KA (P : Program) (kk : Exit → Env → Hp → Prop) : List Fr → Exit → Env → Hp → Prop
  | [], ex, e, h => kk ex e h
  | .code y _ :: s, ex, e, h => (match ex with
    | .normal => CodeA P y e h (KA P kk s)
    | ex => KA P kk s ex e h)
  | .loop c _ :: s, ex, e, h => (match ex with
    | .normal => LoopA P c e h (KA P kk s)
    | ex => KA P kk s ex e h)
  | .block id :: s, ex, e, h => (match ex with
    | .exit i => bcase (i == id) (KA P kk s .normal e h) (KA P kk s (.exit i) e h)
    | ex => KA P kk s ex e h)
theorem KA_ret {kk : Exit → Env → Hp → Prop} {e : Env} {h : Hp} (hk : kk .ret e h) : ∀ s, KA P kk s .ret e h := by
  intro s
  induction s with
  | nil => exact hk
  | cons f s ih => cases f <;> exact ih
def AtA (P : Program) (c : Code) (e : Env) (h : Hp) (k : Exit → Env → Hp → Prop) : Prop := match c with
  | .loop c => LoopA P c e h k
  | c => CodeA P c e h k
theorem AtA.code {c : Code} {e : Env} {h : Hp} {k : Exit → Env → Hp → Prop} (ha : AtA P c e h k) : CodeA P c e h k := by
  cases c <;> first | exact .ofLoop ha | exact ha
def isLoop : Code → Bool
  | .loop _ => true
  | _ => false
inductive WFs (pl : Nat → List PS) (P : Program) (body : Code) : List Fr → Prop
  | nil : WFs pl P body []
  | code {y : Code} {p : List Bool} {s : List Fr} : sub body p = some (y, s, p) → okCode P pl y = true → WFs pl P body s → WFs pl P body (.code y p :: s)
  | loop {c : Code} {p : List Bool} {s : List Fr} : sub body p = some (.loop c, s, p) → okCode P pl c = true → WFs pl P body s → WFs pl P body (.loop c p :: s)
  | block {id : Nat} {s : List Fr} : WFs pl P body s → WFs pl P body (.block id :: s)
def WFw (pl : Nat → List PS) (P : Program) (body : Code) (w : Wk) (s : List Fr) : Prop := match w with
  | .run c p => sub body p = some (c, s, p) ∧ okCode P pl c = true
  | _ => True
def WkA (P : Program) (kk : Exit → Env → Hp → Prop) (w : Wk) (s : List Fr) (e : Env) (h : Hp) : Prop := match w with
  | .run c _ => CodeA P c e h (KA P kk s)
  | .norm => KA P kk s .normal e h
  | .exit id => KA P kk s (.exit id) e h
/-- Each of these slots holds what the value beside it stands for. -/
def VR (ρ : Names) (e : Env) : List Nat → List AV → Prop
  | [], [] => True
  | t :: l, a :: as => (∃ v, e[t]? = some (some v) ∧ R ρ a v) ∧ VR ρ e l as
  | _, _ => False
theorem valsG_elim {ρ : Names} {A : AE} {e : Env} (hE : EnvR ρ A e) : ∀ {l : List Nat} {k : List AV → Bool}, valsG A l k = true → ∃ vs, k vs = true ∧ VR ρ e l vs := by
  intro l
  induction l with
  | nil => intro k h; exact ⟨[], h, trivial⟩
  | cons t l ih =>
    intro k h
    obtain ⟨a, ha, h⟩ := optE_elim h
    obtain ⟨vs, h, hv⟩ := ih h
    exact ⟨a :: vs, h, hE.get t a ha, hv⟩
def FinOk (ρ : Names) (kk : Exit → Env → Hp → Prop) (fin : AE → AH → Bool) : Prop :=
  ∀ ρ' A H e h, Wider ρ ρ' → EnvR ρ' A e → Rel ρ' H h → fin A H = true → kk .normal e h ∧ kk .ret e h
def GotoOk (ρ : Names) (P : Program) (body : Code) (cut : List Bool → Option (List Nat)) (n : Nat) (kk : Exit → Env → Hp → Prop) (goto : List Bool → List AV → AH → Bool) : Prop :=
  ∀ ρ' p lv vs H c s e h, Wider ρ ρ' → goto p vs H = true → cut p = some lv → sub body p = some (c, s, p) → VR ρ' e lv vs → e.length = n → Rel ρ' H h → AtA P c e h (KA P kk s)
theorem FinOk.mono {ρ ρ' : Names} (w : Wider ρ ρ') {kk : Exit → Env → Hp → Prop} {fin : AE → AH → Bool} (ok : FinOk ρ kk fin) : FinOk ρ' kk fin := fun ρ2 A H e h w2 => ok ρ2 A H e h (w.trans w2)
theorem GotoOk.mono {ρ ρ' : Names} (w : Wider ρ ρ') {body : Code} {cut : List Bool → Option (List Nat)} {n : Nat} {kk : Exit → Env → Hp → Prop} {goto : List Bool → List AV → AH → Bool} (ok : GotoOk ρ P body cut n kk goto) : GotoOk ρ' P body cut n kk goto :=
  fun ρ2 p lv vs H c s e h w2 => ok ρ2 p lv vs H c s e h (w.trans w2)
theorem gotoG_elim {X : Cx} {ρ : Names} {A : AE} {e : Env} {lv : List Nat} {p : List Bool} {H : AH} (h : gotoG X A lv p H = true) (hE : EnvR ρ A e) : ∃ vs, X.goto p vs H = true ∧ VR ρ e lv vs ∧ e.length = X.n := by
  obtain ⟨h1, h⟩ := chkE_elim h
  obtain ⟨vs, h, hv⟩ := valsG_elim hE h
  exact ⟨vs, h, hv, hE.len.trans (Nat.eq_of_beq_eq_true h1)⟩
theorem sE_sound (hm : P.follows .mixedOrders = true) {Q : QT} {nt : Nat} (cs : CS P fun i => Q i none) {pl : Nat → List PS} {body : Code} {cut : List Bool → Option (List Nat)} {goto : List Bool → List AV → AH → Bool} {fin : AE → AH → Bool} {kk : Exit → Env → Hp → Prop} :
    ∀ (n : Nat) (w : Wk) (s : List Fr) (A : AE) (H : AH) (ρ : Names) (e : Env) (h : Hp), sE ⟨rc P, P, nt, pl, cut, Q, goto, fin⟩ n w s A H = true → WFw pl P body w s → WFs pl P body s →
      FinOk ρ kk fin → GotoOk ρ P body cut nt kk goto → EnvR ρ A e → Rel ρ H h → WkA P kk w s e h := by
  intro n
  induction n with
  | zero => intro w s A H ρ e h he; cases he
  | succ n ih =>
    intro w s A H ρ e h he hw hs hf hg hE r
    rw [sE_succ] at he
    cases w with
    | run c p =>
      obtain ⟨hp, ho⟩ := hw
      cases c with
      | skip => exact .skip (ih .norm s A H ρ e h he trivial hs hf hg hE r)
      | ret => exact .ret (KA_ret (hf ρ A H e h (.refl ρ) hE r he).2 s)
      | exit id => exact .exit (ih (.exit id) s A H ρ e h he trivial hs hf hg hE r)
      | seq x y =>
        simp only [okCode, Bool.and_eq_true] at ho
        have hx : sub body (p ++ [false]) = some (x, .code y (p ++ [true]) :: s, p ++ [false]) := by rw [sub_snoc, hp]; rfl
        have hy : sub body (p ++ [true]) = some (y, s, p ++ [true]) := by rw [sub_snoc, hp]; rfl
        have := ih (.run x (p ++ [false])) (.code y (p ++ [true]) :: s) A H ρ e h he ⟨hx, ho.1⟩ (.code hy ho.2 hs) hf hg hE r
        refine .seq (CodeA.mono this fun ex e h hk => ?_)
        cases ex <;> exact hk
      | cond c x y =>
        simp only [okCode, Bool.and_eq_true] at ho
        refine .cond (getE_sound hE he fun a v g he => ?_)
        obtain ⟨b, rfl, he⟩ := boolE_elim he
        cases g
        have hx : sub body (p ++ [false]) = some (x, s, p ++ [false]) := by rw [sub_snoc, hp]; rfl
        have hy : sub body (p ++ [true]) = some (y, s, p ++ [true]) := by rw [sub_snoc, hp]; rfl
        cases b
        · exact ih _ s A H ρ e h he ⟨hy, ho.2⟩ hs hf hg hE r
        · exact ih _ s A H ρ e h he ⟨hx, ho.1⟩ hs hf hg hE r
      | block id c =>
        simp only [okCode] at ho
        have hx : sub body (p ++ [false]) = some (c, .block id :: s, p ++ [false]) := by rw [sub_snoc, hp]; rfl
        have := ih (.run c (p ++ [false])) (.block id :: s) A H ρ e h he ⟨hx, ho⟩ (.block hs) hf hg hE r
        refine .block (CodeA.mono this fun ex e h hk => ?_)
        cases ex <;> exact hk
      | region id ops d =>
        cases d with
        | true =>
          simp only [okCode, Bool.and_eq_true, beq_iff_eq] at ho
          have he : drawG (rc P) P Q ops (pl id) none [] A H (fun A H => sE ⟨rc P, P, nt, pl, cut, Q, goto, fin⟩ n .norm s A H) = true := he
          rw [drawG_eq] at he
          refine .regionD hm ho.1.1 ho.1.2 ho.2 (drawE_sound cs he hE r .nil .none fun ρ' A' H' e' h' w hE' r' he => ?_)
          exact ih .norm s A' H' ρ' e' h' he trivial hs (hf.mono w) (hg.mono w) hE' r'
        | false =>
          have he : opsG (rc P) Q ops ops.toList A H (fun A H => sE ⟨rc P, P, nt, pl, cut, Q, goto, fin⟩ n .norm s A H) = true := he
          rw [opsG_eq] at he
          refine .regionW (opsE_sound cs he hE r fun ρ' A' H' e' h' w hE' r' he => ?_)
          exact ih .norm s A' H' ρ' e' h' he trivial hs (hf.mono w) (hg.mono w) hE' r'
      | loop c =>
        obtain ⟨lv, hc, he⟩ := optE_elim he
        obtain ⟨vs, he, hv, hl⟩ := gotoG_elim he hE
        exact (hg ρ p lv vs H _ s e h (.refl ρ) he hc hp hv hl r).code
      | _ => cases he
    | norm =>
      cases hs with
      | nil => exact (hf ρ A H e h (.refl ρ) hE r he).1
      | code hp ho hs =>
        rename_i y p s
        dsimp only at he
        show CodeA P y e h (KA P kk s)
        split at he
        · exact ih (.run y p) s A H ρ e h he ⟨hp, ho⟩ hs hf hg hE r
        · rename_i lv hc
          obtain ⟨vs, he, hv, hl⟩ := gotoG_elim he hE
          exact (hg ρ p lv vs H _ s e h (.refl ρ) he hc hp hv hl r).code
      | loop hp ho hs =>
        rename_i c p s
        show LoopA P c e h (KA P kk s)
        obtain ⟨lv, hc, he⟩ := optE_elim he
        obtain ⟨vs, he, hv, hl⟩ := gotoG_elim he hE
        exact hg ρ p lv vs H _ s e h (.refl ρ) he hc hp hv hl r
      | block hs =>
        rename_i i s
        exact ih .norm s A H ρ e h he trivial hs hf hg hE r
    | exit id =>
      cases hs with
      | nil => cases he
      | code hp ho hs =>
        rename_i y p s
        exact ih (.exit id) s A H ρ e h he trivial hs hf hg hE r
      | loop hp ho hs =>
        rename_i c p s
        exact ih (.exit id) s A H ρ e h he trivial hs hf hg hE r
      | block hs =>
        rename_i i s
        dsimp only at he
        show bcase (id == i) (KA P kk s .normal e h) (KA P kk s (.exit id) e h)
        cases hb : Nat.beq id i with
        | true =>
          rw [hb] at he
          have : (id == i) = true := by simpa using Nat.eq_of_beq_eq_true hb
          rw [this]
          exact ih .norm s A H ρ e h he trivial hs hf hg hE r
        | false =>
          rw [hb] at he
          have : (id == i) = false := by
            cases hx : id == i with
            | false => rfl
            | true =>
              have hii : id = i := by simpa using hx
              subst hii; simp at hb
          rw [this]
          exact ih (.exit id) s A H ρ e h he trivial hs hf hg hE r
end Go.Sl
/-
  An evaluator for closed runs. Part 11: a function's pieces as one table; runs by the table.
-/
namespace Go.Sl
open Go
variable {P : Program}
def finK (P : Program) (fn : Func) (kk : Value → Hp → Prop) : Exit → Env → Hp → Prop := fun ex e h => match ex with
  | .normal | .ret => resK P e h fn.results.toList fun vs => ∃ h', Sub h' h ∧ kk (oneOf vs) h'
  | _ => False
noncomputable def zipG (R : Prims) : List Nat → List AV → List (Nat × Option AV) → (List (Nat × Option AV) → Bool) → Bool
  | [], vs, l, k => R.none vs (k l)
  | t :: lv, vs, l, k => R.arg vs fun a vs => zipG R lv vs ((t, some a) :: l) k
theorem argR_elim {l : List AV} {k : AV → List AV → Bool} (h : argR l k = true) : ∃ a l', l = a :: l' ∧ k a l' = true := by
  cases l with
  | nil => cases h
  | cons a l => exact ⟨a, l, rfl, h⟩
theorem noneR_elim {l : List AV} {k : Bool} (h : noneR l k = true) : l = [] ∧ k = true := by
  cases l with
  | nil => exact ⟨rfl, h⟩
  | cons a l => cases h
theorem zipG_elim {ρ : Names} {n : Nat} {e : Env} : ∀ {lv : List Nat} {vs : List AV} {l : List (Nat × Option AV)} {k : List (Nat × Option AV) → Bool}, zipG (rc P) lv vs l k = true → VR ρ e lv vs → EnvR ρ ⟨n, 0, .e, l⟩ e →
    ∃ l', k l' = true ∧ EnvR ρ ⟨n, 0, .e, l'⟩ e := by
  intro lv
  induction lv with
  | nil =>
    intro vs l k h hv hE
    obtain ⟨_, h⟩ := noneR_elim h
    exact ⟨l, h, hE⟩
  | cons t lv ih =>
    intro vs l k h hv hE
    obtain ⟨a, vs', rfl, h⟩ := argR_elim h
    obtain ⟨⟨v, h1, h2⟩, hv⟩ := hv
    refine ih h hv ⟨hE.len, hE.kept, fun i b hb => ?_⟩
    have hg := get_push ⟨n, 0, .e, l⟩ t (some a) i
    dsimp only at hg
    rw [hg] at hb
    split at hb
    · rename_i hi; cases hb; subst hi; exact ⟨v, h1, h2⟩
    · exact hE.get i b hb
def rangeG : Nat → Nat → List Nat
  | 0, _ => []
  | n + 1, i => i :: rangeG n (i + 1)
theorem rangeG_VR {ρ : Names} {e : Env} : ∀ {args : List AV} {args' : List Value} {i : Nat}, RL ρ args args' → (∀ j v, args'[j]? = some v → e[i + j]? = some (some v)) → ∀ n, n = args.length → VR ρ e (rangeG n i) args := by
  intro args
  induction args with
  | nil => intro args' i g hv n hn; subst hn; trivial
  | cons a args ih =>
    intro args' i g hv n hn
    subst hn
    cases g with
    | cons g gs =>
    rename_i v args'
    exact ⟨⟨v, by simpa using hv 0 v rfl, g⟩, ih gs (fun j u hu => by rw [show i + 1 + j = i + (j + 1) by omega]; exact hv (j + 1) u (by simpa using hu)) _ rfl⟩
theorem zipG_len {k : List (Nat × Option AV) → Bool} : ∀ {lv : List Nat} {vs : List AV} {l : List (Nat × Option AV)}, zipG (rc P) lv vs l k = true → vs.length = lv.length := by
  intro lv
  induction lv with
  | nil => intro vs l h; obtain ⟨h1, _⟩ := noneR_elim h; subst h1; rfl
  | cons t lv ih => intro vs l h; obtain ⟨a, vs', rfl, h⟩ := argR_elim h; simp [ih h]
theorem rangeG_length (n : Nat) : ∀ i, (rangeG n i).length = n := by
  induction n with
  | zero => intro i; rfl
  | succ n ih => intro i; simp [rangeG, ih]
abbrev CutT := FuncId → List Bool → Option (List Nat)
noncomputable def blockG (R : Prims) (P : Program) (pls : Nat → Nat → List PS) (cuts : CutT) (Q : QT) (f : FuncId) (o : Option (List Bool)) (vals : List AV) (H : AH) (k : K2) : Bool :=
  match P.funcs[f]? with
  | none => false
  | some fn => match fn.body with
    | none => false
    | some body => match o with
      | none => chkE (fnOk P f) (chkE (Nat.ble (fn.params.size + fn.nfree) fn.ntmps) (zipG R (rangeG (fn.params.size + fn.nfree) 0) vals [] fun l =>
          sE ⟨R, P, fn.ntmps, pls f, cuts f, Q, fun p vs H => Q f (some p) vs H k, fun A H => resG R A H fn.results.toList fun vs => k (oneA vs) H⟩ 100000000 (.run body []) [] ⟨fn.ntmps, 0, .e, l⟩ H))
      | some p => optE (cuts f p) fun lv => optE (sub body p) fun x => zipG R lv vals [] fun l => match x with
        | (.loop c, s, _) => sE ⟨R, P, fn.ntmps, pls f, cuts f, Q, fun p vs H => Q f (some p) vs H k, fun A H => resG R A H fn.results.toList fun vs => k (oneA vs) H⟩ 100000000 (.run c (p ++ [false])) (.loop c p :: s) ⟨fn.ntmps, 0, .e, l⟩ H
        | (c, s, _) => sE ⟨R, P, fn.ntmps, pls f, cuts f, Q, fun p vs H => Q f (some p) vs H k, fun A H => resG R A H fn.results.toList fun vs => k (oneA vs) H⟩ 100000000 (.run c p) s ⟨fn.ntmps, 0, .e, l⟩ H
def SemB (P : Program) (cuts : CutT) (i : FuncId) (o : Option (List Bool)) (vals : List AV) (H : AH) (k : K2) : Prop := match o with
  | none => ∀ args' h ρ kk, Rel ρ H h → RL ρ vals args' → Ok ρ k kk → EnterA P i args' h kk
  | some p => ∀ fn body lv c s, P.funcs[i]? = some fn → fn.body = some body → cuts i p = some lv → sub body p = some (c, s, p) → ∀ ρ h e kk, Rel ρ H h → VR ρ e lv vals → e.length = fn.ntmps → Ok ρ k kk → AtA P c e h (KA P (finK P fn kk) s)
def QS (P : Program) (cuts : CutT) (Q : QT) : Prop := ∀ i o vals H k, Q i o vals H k = true → SemB P cuts i o vals H k
theorem QS.cs {cuts : CutT} {Q : QT} (q : QS P cuts Q) : CS P fun i => Q i none := fun i args args' H h ρ k kk he r g ok => q i none args H k he args' h ρ kk r g ok
theorem snocInd {α : Type} {motive : List α → Prop} (h0 : motive []) (h1 : ∀ p d, motive p → motive (p ++ [d])) (p : List α) : motive p := by
  have key : ∀ q : List α, motive q.reverse := by
    intro q
    induction q with
    | nil => exact h0
    | cons a q ih => rw [List.reverse_cons]; exact h1 _ _ ih
  have := key p.reverse
  rwa [List.reverse_reverse] at this
theorem sub_at {body : Code} : ∀ {p : List Bool} {x : Code × List Fr × List Bool}, sub body p = some x → x.2.2 = p := by
  intro p
  suffices ∀ x, sub body p = some x → x.2.2 = p from fun {x} => this x
  refine snocInd (motive := fun p => ∀ x, sub body p = some x → x.2.2 = p) (fun x h => by simp [sub] at h; subst h; rfl) (fun p d ih => ?_) p
  · intro x h
    rw [sub_snoc] at h
    cases hs : sub body p with
    | none => rw [hs] at h; cases d <;> cases h
    | some y =>
      obtain ⟨c, s, q⟩ := y
      have hq := ih _ hs
      dsimp only at hq
      subst hq
      rw [hs] at h
      cases c <;> cases d <;> simp [stepP] at h <;> subst h <;> rfl
theorem sub_wf {pl : Nat → List PS} {body : Code} (ho : okCode P pl body = true) : ∀ (p : List Bool) (c : Code) (s : List Fr), sub body p = some (c, s, p) → okCode P pl c = true ∧ WFs pl P body s := by
  intro p
  refine snocInd (motive := fun p => ∀ (c : Code) (s : List Fr), sub body p = some (c, s, p) → okCode P pl c = true ∧ WFs pl P body s) (fun c s h => by simp [sub] at h; obtain ⟨rfl, rfl⟩ := h; exact ⟨ho, .nil⟩) (fun p d ih => ?_) p
  · intro c s h
    have h0 := h
    rw [sub_snoc] at h
    cases hs : sub body p with
    | none => rw [hs] at h; cases d <;> cases h
    | some y =>
      obtain ⟨c', s', q⟩ := y
      have hq := sub_at hs
      dsimp only at hq
      subst hq
      obtain ⟨h1, h2⟩ := ih c' s' hs
      rw [hs] at h
      have snoc : ∀ d, sub body (q ++ [d]) = stepP (some (c', s', q)) d := fun d => by rw [sub_snoc, hs]
      cases c' with
      | seq x y =>
        simp only [okCode, Bool.and_eq_true] at h1
        cases d
        · simp [stepP] at h; obtain ⟨rfl, rfl⟩ := h; exact ⟨h1.1, .code (by rw [snoc]; rfl) h1.2 h2⟩
        · simp [stepP] at h; obtain ⟨rfl, rfl⟩ := h; exact ⟨h1.2, h2⟩
      | cond a x y =>
        simp only [okCode, Bool.and_eq_true] at h1
        cases d
        · simp [stepP] at h; obtain ⟨rfl, rfl⟩ := h; exact ⟨h1.1, h2⟩
        · simp [stepP] at h; obtain ⟨rfl, rfl⟩ := h; exact ⟨h1.2, h2⟩
      | block id x =>
        simp only [okCode] at h1
        cases d
        · simp [stepP] at h; obtain ⟨rfl, rfl⟩ := h; exact ⟨h1, .block h2⟩
        · cases h
      | loop x =>
        simp only [okCode] at h1
        cases d
        · simp [stepP] at h; obtain ⟨rfl, rfl⟩ := h; exact ⟨h1, .loop hs h1 h2⟩
        · cases h
      | _ => cases d <;> cases h
def OkF (P : Program) (pls : Nat → Nat → List PS) (i : FuncId) : Prop := ∀ fn body, P.funcs[i]? = some fn → fn.body = some body → okCode P (pls i) body = true
theorem blockG_sound (hm : P.follows .mixedOrders = true) {pls : Nat → Nat → List PS} {cuts : CutT} {Q : QT} (q : QS P cuts Q) {i : FuncId} (hokF : OkF P pls i) (o : Option (List Bool)) (vals : List AV) (H : AH) (k : K2) (he : blockG (rc P) P pls cuts Q i o vals H k = true) : SemB P cuts i o vals H k := by
  unfold blockG at he
  cases hfn : P.funcs[i]? with
  | none => rw [hfn] at he; cases he
  | some fn =>
  rw [hfn] at he
  dsimp only at he
  cases hb : fn.body with
  | none => rw [hb] at he; cases he
  | some body =>
  rw [hb] at he
  dsimp only at he
  have hoc := hokF fn body hfn hb
  -- what a function's end, and its cuts, come to
  have fin : ∀ ρ kk, Ok ρ k kk → FinOk ρ (finK P fn kk) fun A H => resG (rc P) A H fn.results.toList fun vs => k (oneA vs) H := by
    intro ρ kk ok ρ' A H e h w hE r he
    have he : resG (rc P) A H fn.results.toList (fun vs => k (oneA vs) H) = true := he
    rw [resG_eq] at he
    have := resE_sound (K := fun vs => ∃ h', Sub h' h ∧ kk (oneOf vs) h') hE r he fun as vs gs he => ⟨h, Sub.refl _, ok ρ' _ _ _ _ w r (oneA_rel gs) he⟩
    exact ⟨this, this⟩
  have got : ∀ ρ kk, Ok ρ k kk → GotoOk ρ P body (cuts i) fn.ntmps (finK P fn kk) fun p vs H => Q i (some p) vs H k := by
    intro ρ kk ok ρ' p lv vs H c s e h w he hc hs hv hl r
    exact q i (some p) vs H k he fn body lv c s hfn hb hc hs ρ' h e kk r hv hl (ok.mono w)
  cases o with
  | none =>
    intro args' h ρ kk r g ok
    dsimp only at he
    obtain ⟨hok, he⟩ := chkE_elim he
    obtain ⟨hnt, he⟩ := chkE_elim he
    have hln := zipG_len he
    rw [rangeG_length] at hln
    have hnt : fn.params.size + fn.nfree ≤ fn.ntmps := by simpa using hnt
    have gl := g.length
    obtain ⟨l, he, hE⟩ := zipG_elim (ρ := ρ) (n := fn.ntmps) (e := args'.map some ++ List.replicate (fn.ntmps - args'.length) none) he
      (rangeG_VR g (fun j v hv => by
        have hlt : j < args'.length := by
          rcases Nat.lt_or_ge j args'.length with h | h
          · exact h
          · rw [List.getElem?_eq_none h] at hv; cases hv
        rw [Nat.zero_add, List.getElem?_append_left (by simpa using hlt)]; simp [hv]) _ hln.symm)
      ⟨by simp; omega, fun i a hi => (by cases hi), fun i a hi => (by cases hi)⟩
    refine .inl ⟨hok, CallA.func hfn hb ?_⟩
    have := sE_sound hm q.cs (nt := fn.ntmps) (pl := pls i) (body := body) (cut := cuts i) _ (.run body []) [] _ H ρ _ h he ⟨rfl, hoc⟩ .nil (fin ρ kk ok) (got ρ kk ok) hE r
    exact this
  | some p =>
    intro fn' body' lv c s hfn' hb' hc hs ρ h e kk r hv hl ok
    rw [hfn] at hfn'
    cases hfn'
    rw [hb] at hb'; cases hb'
    dsimp only at he
    rw [hc, hs] at he
    simp only [optE] at he
    obtain ⟨l, he, hE⟩ := zipG_elim (ρ := ρ) (n := fn.ntmps) (e := e) he hv ⟨hl, fun i a hi => (by cases hi), fun i a hi => (by cases hi)⟩
    obtain ⟨h1, h2⟩ := sub_wf hoc p c s hs
    cases c with
    | loop c =>
      have hx : sub body (p ++ [false]) = some (c, .loop c p :: s, p ++ [false]) := by rw [sub_snoc, hs]; rfl
      have := sE_sound hm q.cs (nt := fn.ntmps) (pl := pls i) (body := body) (cut := cuts i) _ (.run c (p ++ [false])) (.loop c p :: s) _ H ρ _ h he ⟨hx, h1⟩ (.loop hs h1 h2) (fin ρ kk ok) (got ρ kk ok) hE r
      refine LoopA.unroll (CodeA.mono this fun ex e h hk => ?_)
      cases ex <;> exact hk
    | _ => exact sE_sound hm q.cs (nt := fn.ntmps) (pl := pls i) (body := body) (cut := cuts i) _ (.run _ p) s _ H ρ _ h he ⟨hs, h1⟩ h2 (fin ρ kk ok) (got ρ kk ok) hE r
structure Blk where
  run : QT → List AV → AH → K2 → Bool
abbrev TabT := FuncId → Option (List Bool) → Blk
noncomputable def runQ (tab : TabT) (n : Nat) : QT :=
  Nat.rec (motive := fun _ => QT) (fun _ _ _ _ _ => false) (fun _ ih i o vals H k => (tab i o).run ih vals H k) n
/-- A piece that does what the code says; or what is proved of the function otherwise. -/
def GoodB (P : Program) (cuts : CutT) (i : FuncId) (o : Option (List Bool)) (B : Blk) : Prop :=
  ∀ Q vals H k, QS P cuts Q → B.run Q vals H k = true → SemB P cuts i o vals H k
theorem GoodB.of_eq (hm : P.follows .mixedOrders = true) {pls : Nat → Nat → List PS} {cuts : CutT} {i : FuncId} {o : Option (List Bool)} {B : Prims → QT → List AV → AH → K2 → Bool}
    (hokF : OkF P pls i) (h : ∀ R Q vals H k, B R Q vals H k = blockG R P pls cuts Q i o vals H k) : GoodB P cuts i o ⟨B (rc P)⟩ := by
  intro Q vals H k q he
  have he : B (rc P) Q vals H k = true := he
  rw [h] at he
  exact blockG_sound hm q hokF o vals H k he
theorem runQ_sound {cuts : CutT} {tab : TabT} (hg : ∀ i o, GoodB P cuts i o (tab i o)) : ∀ n, QS P cuts (runQ tab n) := by
  intro n
  induction n with
  | zero => intro i o vals H k he; cases he
  | succ n ih => intro i o vals H k he; exact hg i o (runQ tab n) vals H k ih he
-- tables
abbrev Row := FuncId × Option (List Bool) × Blk
def samePth : List Bool → List Bool → Bool
  | [], [] => true
  | a :: l, b :: m => cond a (cond b (samePth l m) false) (cond b false (samePth l m))
  | _, _ => false
theorem samePth_eq : ∀ {l m : List Bool}, samePth l m = true → l = m := by
  intro l
  induction l with
  | nil => intro m h; cases m with
    | nil => rfl
    | cons => cases h
  | cons a l ih => intro m h; cases m with
    | nil => cases h
    | cons b m => cases a <;> cases b <;> first | (cases h; done) | rw [ih h]
def sameO : Option (List Bool) → Option (List Bool) → Bool
  | none, none => true
  | some l, some m => samePth l m
  | _, _ => false
theorem sameO_eq {l m : Option (List Bool)} (h : sameO l m = true) : l = m := by
  cases l <;> cases m <;> first | rfl | (cases h; done) | rw [samePth_eq h]
def findR : List Row → FuncId → Option (List Bool) → Blk
  | [], _, _ => ⟨fun _ _ _ _ => false⟩
  | (j, p, B) :: l, i, o => cond (Nat.beq j i && sameO p o) B (findR l i o)
theorem GoodB.no {cuts : CutT} {i : FuncId} {o : Option (List Bool)} : GoodB P cuts i o ⟨fun _ _ _ _ => false⟩ := by intro Q vals H k q he; cases he
def GoodL (P : Program) (cuts : CutT) : List Row → Prop
  | [] => True
  | (i, o, B) :: l => GoodB P cuts i o B ∧ GoodL P cuts l
theorem GoodL.app {cuts : CutT} : ∀ {l m : List Row}, GoodL P cuts l → GoodL P cuts m → GoodL P cuts (l ++ m) := by
  intro l
  induction l with
  | nil => intro m _ h; exact h
  | cons x l ih => intro m h g; exact ⟨h.1, ih h.2 g⟩
theorem findR_good {cuts : CutT} : ∀ {l : List Row}, GoodL P cuts l → ∀ i o, GoodB P cuts i o (findR l i o) := by
  intro l
  induction l with
  | nil => intro _ i o; exact .no
  | cons x l ih =>
    obtain ⟨j, p, B⟩ := x
    intro h i o
    unfold findR
    cases hb : (Nat.beq j i && sameO p o) with
    | false => exact ih h.2 i o
    | true =>
      simp only [Bool.and_eq_true] at hb
      have h1 := Nat.eq_of_beq_eq_true hb.1
      have h2 := sameO_eq hb.2
      subst h1; subst h2
      exact h.1
end Go.Sl
/-
  An evaluator for closed runs. Part 12: what was run once from nothing serves over any heap.
-/
namespace Go.Sl
open Go
variable {P : Program}
abbrev hp0 : Hp := fun _ => none
theorem Rep.zero (w : World) : Rep hp0 w := fun _ _ e => by cases e
theorem Ext.frame0 {h h0 : Hp} {w w' : World} (r : Rep h w) (x : Ext hp0 w h0 w') : Rep h w' ∧ Ext h w h w' := by
  have keep : ∀ b, b < w.heap.size → w'.heap[b]? = w.heap[b]? := fun b hb => x.keep b hb (fun _ e => by cases e)
  refine ⟨fun b o e => ?_, ⟨x.size, fun b hb _ => keep b hb, fun b o e => .inl (by rw [e]; simp), fun b o o' _ e rr e' => by rw [e] at e'; cases e'; exact rr, x.tape, x.os, x.output⟩⟩
  obtain ⟨y, hy, hr⟩ := r b o e
  exact ⟨y, by rw [keep b (r.lt e)]; exact hy, hr⟩
theorem EnterA.frame0 {i : FuncId} {args : List Value} {k : Value → Hp → Prop} (hc : EnterA P i args hp0 k) {h : Hp} {kk : Value → Hp → Prop} (hk : ∀ v h0, k v h0 → kk v h) : EnterA P i args h kk := by
  rcases hc with ⟨hi, hc⟩ | ⟨v, hv, hkv⟩
  · refine .inl ⟨hi, fun w r => (hc w (.zero w)).mono fun e w' ⟨v, h0, he, hkv, hr0, hx⟩ => ?_⟩
    obtain ⟨h1, h2⟩ := hx.frame0 r
    exact ⟨v, h, he, hk v h0 hkv, h1, h2⟩
  · exact .inr ⟨v, hv, hk v _ hkv⟩
theorem rel0 : Rel [] ⟨.e, 0⟩ hp0 := ⟨rfl, fun _ _ e => (by cases e), fun _ _ _ _ _ _ _ e => (by cases e)⟩
def isTrue (a : AV) : Bool := match a with | .v (.bool b) => b | _ => false
theorem isTrue_elim {ρ : Names} {a : AV} {v : Value} (h : isTrue a = true) (g : R ρ a v) : v = .bool true := by
  unfold isTrue at h
  split at h
  · cases g; rw [h]
  · cases h
def plainA (a : AV) : Bool := match a with | .v _ => true | _ => false
def valA (a : AV) : Value := match a with | .v x => x | _ => undef
theorem plain_RL {ρ : Names} : ∀ {l : List AV}, l.all plainA = true → RL ρ l (l.map valA) := by
  intro l
  induction l with
  | nil => intro _; exact .nil
  | cons a l ih =>
    intro h
    simp only [List.all_cons, Bool.and_eq_true] at h
    cases a with
    | v x => exact .cons (.v x) (ih h.2)
    | _ => cases h.1
/-- A run that comes to true. -/
theorem runQ_true {cuts : CutT} {tab : TabT} (hg : ∀ i o, GoodB P cuts i o (tab i o)) {n : Nat} {i : FuncId} {args : List AV} (ha : args.all plainA = true) (he : runQ tab n i none args ⟨.e, 0⟩ (fun a _ => isTrue a) = true) :
    EnterA P i (args.map valA) hp0 fun v _ => v = .bool true :=
  runQ_sound hg n i none args ⟨.e, 0⟩ _ he (args.map valA) hp0 [] _ rel0 (plain_RL ha) fun _ _ _ _ _ _ _ g he => isTrue_elim he g
noncomputable def trueB : Blk := ⟨fun _ vals H k => noneR vals (k (.v (.bool true)) H)⟩
theorem trueB_good {cuts : CutT} {i : FuncId} (hc : EnterA P i [] hp0 fun v _ => v = .bool true) : GoodB P cuts i none trueB := by
  intro Q vals H k q he
  obtain ⟨rfl, he⟩ := noneR_elim he
  intro args' h ρ kk r g ok
  cases g
  exact hc.frame0 fun v h0 hv => by subst hv; exact ok.here r (.v _) he
end Go.Sl
/-
  That a function's plans are right, as a closed fact.
-/
namespace Go.Sl
open Go
def okB (P : Program) (pls : Nat → Nat → List PS) (i : FuncId) : Bool := match P.funcs[i]? with
  | some fn => match fn.body with
    | some c => okCode P (pls i) c
    | none => true
  | none => true
theorem OkF.of {P : Program} {pls : Nat → Nat → List PS} {i : FuncId} (h : okB P pls i = true) : OkF P pls i := by
  intro fn body h1 h2
  unfold okB at h
  rw [h1] at h
  dsimp only at h
  rw [h2] at h
  exact h
/-- A function without a body that answers at once. -/
def ExtOk (P : Program) (i : FuncId) (f : List AV → AH → K2 → Bool) : Prop :=
  ∀ (args : List AV) (args' : List Value) (H : AH) (h : Hp) (ρ : Names) (k : AV → AH → Bool) (kk : Value → Hp → Prop), f args H k = true → Rel ρ H h → RL ρ args args' → Ok ρ k kk → EnterA P i args' h kk
theorem GoodB.of_ext {P : Program} {cuts : CutT} {i : FuncId} {f : List AV → AH → K2 → Bool} (h : ExtOk P i f) : GoodB P cuts i none ⟨fun _ => f⟩ :=
  fun _ vals H k _ he args' h' ρ kk r g ok => h vals args' H h' ρ k kk he r g ok
end Go.Sl
