import Derived.Test.YtgelbhclfnpedaaGreatDoorWG5
import Derived.Test.YtgelbhclfnpedaaGreatDoorWG1
import Derived.Test.YtgelbhclfnpedaaGreatDoorChecked
import Derived.Test.YtgelbhclfnpedaaGreatDoorWCE
set_option linter.all false
set_option linter.unusedVariables false
set_option linter.unusedSimpArgs false
set_option maxRecDepth 1000000
set_option linter.unusedVariables false
namespace Go.Sl
open Go Go.Proofs
theorem ok_141 : okB Tryz.prog plans 141 = true := by kernel_rfl
theorem ok_203 : okB Tryz.prog plans 203 = true := by kernel_rfl
theorem ok_204 : okB Tryz.prog plans 204 = true := by kernel_rfl
theorem ok_245 : okB Tryz.prog plans 245 = true := by kernel_rfl
theorem ok_246 : okB Tryz.prog plans 246 = true := by kernel_rfl
theorem ok_236 : okB Tryz.prog plans 236 = true := by kernel_rfl
noncomputable def B_141 (R : Prims) (Q : QT) (vals : List AV) (H : AH) (k : K2) : Bool :=
  R.arg vals (fun v0 l1 => R.none l1 (R.builtin Builtin.len [97] [v0] H (fun v2 h3 => R.conv 3 319 v2 h3 (fun v4 h5 => Q 204 none [v4] h5 (fun v6 h7 => Q 203 none [v0, AV.v (Value.int IntKind.i64 (Int.ofNat 0)), v2, v6] h7 (fun v8 h9 => k (AV.tup []) h9))))))
theorem B_141_eq (R : Prims) (Q : QT) (vals : List AV) (H : AH) (k : K2) : B_141 R Q vals H k = blockG R Tryz.prog plans cuts Q 141 none vals H k := by kernel_rfl
noncomputable def B_203 (R : Prims) (Q : QT) (vals : List AV) (H : AH) (k : K2) : Bool :=
  R.arg vals (fun v0 l1 => R.arg l1 (fun v2 l3 => R.arg l3 (fun v4 l5 => R.arg l5 (fun v6 l7 => R.none l7 (Q 203 (some [true, true, false]) [v0, v2, v4, v6, AV.v (Value.bool true), AV.v (Value.bool true)] H k)))))
theorem B_203_eq (R : Prims) (Q : QT) (vals : List AV) (H : AH) (k : K2) : B_203 R Q vals H k = blockG R Tryz.prog plans cuts Q 203 none vals H k := by kernel_rfl
noncomputable def B_203_110 (R : Prims) (Q : QT) (vals : List AV) (H : AH) (k : K2) : Bool :=
  R.arg vals (fun v0 l1 => R.arg l1 (fun v2 l3 => R.arg l3 (fun v4 l5 => R.arg l5 (fun v6 l7 => R.arg l7 (fun v8 l9 => R.arg l9 (fun v10 l11 => R.none l11 (R.bin BinOp.sub 3 v4 v2 H (fun v12 h13 => R.bin BinOp.leq 3 v12 (AV.v (Value.int IntKind.i64 (Int.ofNat 12))) h13 (fun v14 h15 => R.br v14 (Q 236 none [v0, v2, v4] h15 (fun v16 h17 => k (AV.tup []) h17)) (R.bin BinOp.eql 3 v6 (AV.v (Value.int IntKind.i64 (Int.ofNat 0))) h15 (fun v18 h19 => R.br v18 (Q 237 none [v0, v2, v4] h19 (fun v20 h21 => k (AV.tup []) h21)) (R.un UnOp.not v8 h19 (fun v22 h23 => R.br v22 (Q 238 none [v0, v2, v4] h23 (fun v24 h25 => R.bin BinOp.sub 3 v6 (AV.v (Value.int IntKind.i64 (Int.ofNat 1))) h25 (fun v26 h27 => Q 203 (some [true, true, false, false, false, true, true, true, true]) [v0, v2, v4, v26, v8, v10, v12] h27 k))) (Q 203 (some [true, true, false, false, false, true, true, true, true]) [v0, v2, v4, v6, v8, v10, v12] h23 k))))))))))))))
theorem B_203_110_eq (R : Prims) (Q : QT) (vals : List AV) (H : AH) (k : K2) : B_203_110 R Q vals H k = blockG R Tryz.prog plans cuts Q 203 (some [true, true, false]) vals H k := by kernel_rfl
noncomputable def B_203_110001111 (R : Prims) (Q : QT) (vals : List AV) (H : AH) (k : K2) : Bool :=
  R.arg vals (fun v0 l1 => R.arg l1 (fun v2 l3 => R.arg l3 (fun v4 l5 => R.arg l5 (fun v6 l7 => R.arg l7 (fun v8 l9 => R.arg l9 (fun v10 l11 => R.arg l11 (fun v12 l13 => R.none l13 (Q 239 none [v0, v2, v4] H (fun v14 h15 => R.extract v14 0 h15 (fun v16 h17 => R.extract v14 1 h17 (fun v18 h19 => R.bin BinOp.eql 414 v18 (AV.v (Value.int IntKind.i64 (Int.ofNat 2))) h19 (fun v20 h21 => R.br v20 (Q 240 none [v0, v2, v4] h21 (fun v22 h23 => R.bin BinOp.sub 3 v4 (AV.v (Value.int IntKind.i64 (Int.ofNat 1))) h23 (fun v24 h25 => R.bin BinOp.sub 3 v16 v2 h25 (fun v26 h27 => R.bin BinOp.sub 3 v24 v26 h27 (fun v28 h29 => Q 203 (some [true, true, false, false, false, true, true, true, true, true, true]) [v0, v2, v4, v6, v8, v10, v12, v28, AV.v (Value.int IntKind.i64 (Int.ofNat 1))] h29 k))))) (Q 203 (some [true, true, false, false, false, true, true, true, true, true, true]) [v0, v2, v4, v6, v8, v10, v12, v16, v18] h21 k)))))))))))))
theorem B_203_110001111_eq (R : Prims) (Q : QT) (vals : List AV) (H : AH) (k : K2) : B_203_110001111 R Q vals H k = blockG R Tryz.prog plans cuts Q 203 (some [true, true, false, false, false, true, true, true, true]) vals H k := by kernel_rfl
noncomputable def B_203_11000111111 (R : Prims) (Q : QT) (vals : List AV) (H : AH) (k : K2) : Bool :=
  R.arg vals (fun v0 l1 => R.arg l1 (fun v2 l3 => R.arg l3 (fun v4 l5 => R.arg l5 (fun v6 l7 => R.arg l7 (fun v8 l9 => R.arg l9 (fun v10 l11 => R.arg l11 (fun v12 l13 => R.arg l13 (fun v14 l15 => R.arg l15 (fun v16 l17 => R.none l17 (R.want v8 true (fun k18 => k18 v10 H) H (fun v19 h20 => R.pick v8 v19 (AV.v (Value.bool false)) (fun v21 => R.want v21 true (fun k22 => k22 v16 h20) h20 (fun v23 h24 => R.want v21 true (fun k25 => R.bin BinOp.eql 414 v23 (AV.v (Value.int IntKind.i64 (Int.ofNat 1))) h24 k25) h24 (fun v26 h27 => R.pick v21 v26 (AV.v (Value.bool false)) (fun v28 => R.br v28 (Q 241 none [v0, v2, v4] h27 (fun v29 h30 => R.br v29 (k (AV.tup []) h30) (Q 203 (some [true, true, false, false, false, true, true, true, true, true, true, true]) [v0, v2, v4, v6, v8, v10, v12, v14] h30 k))) (Q 203 (some [true, true, false, false, false, true, true, true, true, true, true, true]) [v0, v2, v4, v6, v8, v10, v12, v14] h27 k))))))))))))))))
theorem B_203_11000111111_eq (R : Prims) (Q : QT) (vals : List AV) (H : AH) (k : K2) : B_203_11000111111 R Q vals H k = blockG R Tryz.prog plans cuts Q 203 (some [true, true, false, false, false, true, true, true, true, true, true]) vals H k := by kernel_rfl
noncomputable def B_203_110001111111 (R : Prims) (Q : QT) (vals : List AV) (H : AH) (k : K2) : Bool :=
  R.arg vals (fun v0 l1 => R.arg l1 (fun v2 l3 => R.arg l3 (fun v4 l5 => R.arg l5 (fun v6 l7 => R.arg l7 (fun v8 l9 => R.arg l9 (fun v10 l11 => R.arg l11 (fun v12 l13 => R.arg l13 (fun v14 l15 => R.none l15 (R.bin BinOp.gtr 3 v2 (AV.v (Value.int IntKind.i64 (Int.ofNat 0))) H (fun v16 h17 => R.want v16 true (fun k18 => k18 v0 H) H (fun v19 h20 => R.want v16 true (fun k21 => k21 v2 H) H (fun v22 h23 => R.want v16 true (fun k24 => R.bin BinOp.sub 3 v22 (AV.v (Value.int IntKind.i64 (Int.ofNat 1))) H k24) H (fun v25 h26 => R.want v16 true (fun k27 => R.indexAddr 97 v19 v25 H k27) H (fun v28 h29 => R.want v16 true (fun k30 => R.load 3 v28 H k30) H (fun v31 h32 => R.want v16 true (fun k33 => k33 v0 H) H (fun v34 h35 => R.want v16 true (fun k36 => k36 v14 H) H (fun v37 h38 => R.want v16 true (fun k39 => R.indexAddr 97 v34 v37 H k39) H (fun v40 h41 => R.want v16 true (fun k42 => R.load 3 v40 H k42) H (fun v43 h44 => R.want v16 true (fun k45 => Q 242 none [v31, v43] H k45) H (fun v46 h47 => R.want v16 true (fun k48 => R.un UnOp.not v46 h47 k48) h47 (fun v49 h50 => R.pick v16 v49 (AV.v (Value.bool false)) (fun v51 => R.br v51 (Q 243 none [v0, v2, v4, v14] h47 (fun v52 h53 => Q 203 (some [true, true, false]) [v0, v52, v4, v6, v8, v10] h53 k)) (Q 244 none [v0, v2, v4, v14] h47 (fun v54 h55 => R.extract v54 0 h55 (fun v56 h57 => R.extract v54 1 h57 (fun v58 h59 => R.bin BinOp.sub 3 v56 v2 h59 (fun v60 h61 => R.bin BinOp.sub 3 v4 v56 h61 (fun v62 h63 => R.bin BinOp.quo 3 v12 (AV.v (Value.int IntKind.i64 (Int.ofNat 8))) h63 (fun v64 h65 => R.bin BinOp.lss 3 v60 v62 h65 (fun v66 h67 => R.br v66 (R.bin BinOp.geq 3 v60 v64 h67 (fun v68 h69 => Q 203 none [v0, v2, v56, v6] h69 (fun v70 h71 => R.bin BinOp.add 3 v56 (AV.v (Value.int IntKind.i64 (Int.ofNat 1))) h71 (fun v72 h73 => Q 203 (some [true, true, false]) [v0, v72, v4, v6, v68, v58] h73 k)))) (R.bin BinOp.geq 3 v62 v64 h67 (fun v74 h75 => R.bin BinOp.add 3 v56 (AV.v (Value.int IntKind.i64 (Int.ofNat 1))) h75 (fun v76 h77 => Q 203 none [v0, v76, v4, v6] h77 (fun v78 h79 => Q 203 (some [true, true, false]) [v0, v2, v56, v6, v74, v58] h79 k))))))))))))))))))))))))))))))))))
theorem B_203_110001111111_eq (R : Prims) (Q : QT) (vals : List AV) (H : AH) (k : K2) : B_203_110001111111 R Q vals H k = blockG R Tryz.prog plans cuts Q 203 (some [true, true, false, false, false, true, true, true, true, true, true, true]) vals H k := by kernel_rfl
noncomputable def B_204 (R : Prims) (Q : QT) (vals : List AV) (H : AH) (k : K2) : Bool :=
  R.arg vals (fun v0 l1 => R.none l1 (R.br (AV.v (Value.bool false)) (R.conv 319 55 v0 H (fun v2 h3 => Q 245 none [v2] h3 (fun v4 h5 => k v4 h5))) (Q 246 none [v0] H (fun v6 h7 => k v6 h7))))
theorem B_204_eq (R : Prims) (Q : QT) (vals : List AV) (H : AH) (k : K2) : B_204 R Q vals H k = blockG R Tryz.prog plans cuts Q 204 none vals H k := by kernel_rfl
noncomputable def B_236 (R : Prims) (Q : QT) (vals : List AV) (H : AH) (k : K2) : Bool :=
  R.arg vals (fun v0 l1 => R.arg l1 (fun v2 l3 => R.arg l3 (fun v4 l5 => R.none l5 (R.bin BinOp.add 3 v2 (AV.v (Value.int IntKind.i64 (Int.ofNat 1))) H (fun v6 h7 => Q 236 (some [true, false]) [v0, v2, v4, v6] h7 k)))))
theorem B_236_eq (R : Prims) (Q : QT) (vals : List AV) (H : AH) (k : K2) : B_236 R Q vals H k = blockG R Tryz.prog plans cuts Q 236 none vals H k := by kernel_rfl
noncomputable def B_236_10 (R : Prims) (Q : QT) (vals : List AV) (H : AH) (k : K2) : Bool :=
  R.arg vals (fun v0 l1 => R.arg l1 (fun v2 l3 => R.arg l3 (fun v4 l5 => R.arg l5 (fun v6 l7 => R.none l7 (R.bin BinOp.lss 3 v6 v4 H (fun v8 h9 => R.br v8 (Q 236 (some [true, false, false, true, false, false, true, false]) [v0, v2, v4, v6, v6] h9 k) (k (AV.tup []) h9)))))))
theorem B_236_10_eq (R : Prims) (Q : QT) (vals : List AV) (H : AH) (k : K2) : B_236_10 R Q vals H k = blockG R Tryz.prog plans cuts Q 236 (some [true, false]) vals H k := by kernel_rfl
noncomputable def B_236_10010010 (R : Prims) (Q : QT) (vals : List AV) (H : AH) (k : K2) : Bool :=
  R.arg vals (fun v0 l1 => R.arg l1 (fun v2 l3 => R.arg l3 (fun v4 l5 => R.arg l5 (fun v6 l7 => R.arg l7 (fun v8 l9 => R.none l9 (R.bin BinOp.gtr 3 v8 v2 H (fun v10 h11 => R.want v10 true (fun k12 => k12 v0 H) H (fun v13 h14 => R.want v10 true (fun k15 => k15 v8 H) H (fun v16 h17 => R.want v10 true (fun k18 => R.indexAddr 97 v13 v16 H k18) H (fun v19 h20 => R.want v10 true (fun k21 => R.load 3 v19 H k21) H (fun v22 h23 => R.want v10 true (fun k24 => k24 v0 H) H (fun v25 h26 => R.want v10 true (fun k27 => k27 v8 H) H (fun v28 h29 => R.want v10 true (fun k30 => R.bin BinOp.sub 3 v28 (AV.v (Value.int IntKind.i64 (Int.ofNat 1))) H k30) H (fun v31 h32 => R.want v10 true (fun k33 => R.indexAddr 97 v25 v31 H k33) H (fun v34 h35 => R.want v10 true (fun k36 => R.load 3 v34 H k36) H (fun v37 h38 => R.want v10 true (fun k39 => Q 242 none [v22, v37] H k39) H (fun v40 h41 => R.pick v10 v40 (AV.v (Value.bool false)) (fun v42 => R.br v42 (R.bin BinOp.sub 3 v8 (AV.v (Value.int IntKind.i64 (Int.ofNat 1))) h41 (fun v43 h44 => R.bin BinOp.sub 3 v8 (AV.v (Value.int IntKind.i64 (Int.ofNat 1))) h41 (fun v45 h46 => R.indexAddr 97 v0 v45 h41 (fun v47 h48 => R.load 3 v47 h41 (fun v49 h50 => R.indexAddr 97 v0 v8 h41 (fun v51 h52 => R.load 3 v51 h41 (fun v53 h54 => R.indexAddr 97 v0 v8 h41 (fun v55 h56 => R.store 3 v55 v49 h41 (fun v57 h58 => R.chk (R.chk (R.bin BinOp.sub 3 v8 (AV.v (Value.int IntKind.i64 (Int.ofNat 1))) h58 (fun v59 h60 => R.same v59 v43)) (R.chk (R.same v8 v8) (R.chk (R.same v0 v0) true))) (R.indexAddr 97 v0 v43 h58 (fun v61 h62 => R.store 3 v61 v53 h58 (fun v63 h64 => R.bin BinOp.sub 3 v8 (AV.v (Value.int IntKind.i64 (Int.ofNat 1))) h64 (fun v65 h66 => Q 236 (some [true, false, false, true, false, false, true, false]) [v0, v2, v4, v6, v65] h66 k))))))))))))) (R.bin BinOp.add 3 v6 (AV.v (Value.int IntKind.i64 (Int.ofNat 1))) h41 (fun v67 h68 => Q 236 (some [true, false]) [v0, v2, v4, v67] h68 k))))))))))))))))))))
theorem B_236_10010010_eq (R : Prims) (Q : QT) (vals : List AV) (H : AH) (k : K2) : B_236_10010010 R Q vals H k = blockG R Tryz.prog plans cuts Q 236 (some [true, false, false, true, false, false, true, false]) vals H k := by kernel_rfl
noncomputable def B_245 (R : Prims) (Q : QT) (vals : List AV) (H : AH) (k : K2) : Bool :=
  R.arg vals (fun v0 l1 => R.none l1 (R.bin BinOp.geq 55 v0 (AV.v (Value.int IntKind.u32 (Int.ofNat 65536))) H (fun v2 h3 => R.br v2 (R.bin BinOp.shr 55 v0 (AV.v (Value.int IntKind.u64 (Int.ofNat 16))) h3 (fun v4 h5 => Q 245 (some [true, true]) [v4, AV.v (Value.int IntKind.i64 (Int.ofNat 16))] h5 k)) (Q 245 (some [true, true]) [v0, AV.v (Value.int IntKind.i64 (Int.ofNat 0))] h3 k))))
theorem B_245_eq (R : Prims) (Q : QT) (vals : List AV) (H : AH) (k : K2) : B_245 R Q vals H k = blockG R Tryz.prog plans cuts Q 245 none vals H k := by kernel_rfl
noncomputable def B_245_11 (R : Prims) (Q : QT) (vals : List AV) (H : AH) (k : K2) : Bool :=
  R.arg vals (fun v0 l1 => R.arg l1 (fun v2 l3 => R.none l3 (R.bin BinOp.geq 55 v0 (AV.v (Value.int IntKind.u32 (Int.ofNat 256))) H (fun v4 h5 => R.br v4 (R.bin BinOp.shr 55 v0 (AV.v (Value.int IntKind.u64 (Int.ofNat 8))) h5 (fun v6 h7 => R.bin BinOp.add 3 v2 (AV.v (Value.int IntKind.i64 (Int.ofNat 8))) h7 (fun v8 h9 => Q 245 (some [true, true, true]) [v6, v8] h9 k))) (Q 245 (some [true, true, true]) [v0, v2] h5 k)))))
theorem B_245_11_eq (R : Prims) (Q : QT) (vals : List AV) (H : AH) (k : K2) : B_245_11 R Q vals H k = blockG R Tryz.prog plans cuts Q 245 (some [true, true]) vals H k := by kernel_rfl
noncomputable def B_245_111 (R : Prims) (Q : QT) (vals : List AV) (H : AH) (k : K2) : Bool :=
  R.arg vals (fun v0 l1 => R.arg l1 (fun v2 l3 => R.none l3 (R.conv 55 5 v0 H (fun v4 h5 => R.index 9 (AV.v (Value.string ⟨#[0, 1, 2, 2, 3, 3, 3, 3, 4, 4, 4, 4, 4, 4, 4, 4, 5, 5, 5, 5, 5, 5, 5, 5, 5, 5, 5, 5, 5, 5, 5, 5, 6, 6, 6, 6, 6, 6, 6, 6, 6, 6, 6, 6, 6, 6, 6, 6, 6, 6, 6, 6, 6, 6, 6, 6, 6, 6, 6, 6, 6, 6, 6, 6, 7, 7, 7, 7, 7, 7, 7, 7, 7, 7, 7, 7, 7, 7, 7, 7, 7, 7, 7, 7, 7, 7, 7, 7, 7, 7, 7, 7, 7, 7, 7, 7, 7, 7, 7, 7, 7, 7, 7, 7, 7, 7, 7, 7, 7, 7, 7, 7, 7, 7, 7, 7, 7, 7, 7, 7, 7, 7, 7, 7, 7, 7, 7, 7, 8, 8, 8, 8, 8, 8, 8, 8, 8, 8, 8, 8, 8, 8, 8, 8, 8, 8, 8, 8, 8, 8, 8, 8, 8, 8, 8, 8, 8, 8, 8, 8, 8, 8, 8, 8, 8, 8, 8, 8, 8, 8, 8, 8, 8, 8, 8, 8, 8, 8, 8, 8, 8, 8, 8, 8, 8, 8, 8, 8, 8, 8, 8, 8, 8, 8, 8, 8, 8, 8, 8, 8, 8, 8, 8, 8, 8, 8, 8, 8, 8, 8, 8, 8, 8, 8, 8, 8, 8, 8, 8, 8, 8, 8, 8, 8, 8, 8, 8, 8, 8, 8, 8, 8, 8, 8, 8, 8, 8, 8, 8, 8, 8, 8, 8, 8, 8, 8, 8, 8, 8, 8, 8, 8, 8, 8, 8, 8]⟩)) v4 h5 (fun v6 h7 => R.conv 5 3 v6 h7 (fun v8 h9 => R.bin BinOp.add 3 v2 v8 h9 (fun v10 h11 => k v10 h11)))))))
theorem B_245_111_eq (R : Prims) (Q : QT) (vals : List AV) (H : AH) (k : K2) : B_245_111 R Q vals H k = blockG R Tryz.prog plans cuts Q 245 (some [true, true, true]) vals H k := by kernel_rfl
noncomputable def B_246 (R : Prims) (Q : QT) (vals : List AV) (H : AH) (k : K2) : Bool :=
  R.arg vals (fun v0 l1 => R.none l1 (R.bin BinOp.geq 422 v0 (AV.v (Value.int IntKind.u64 (Int.ofNat 4294967296))) H (fun v2 h3 => R.br v2 (R.bin BinOp.shr 422 v0 (AV.v (Value.int IntKind.u64 (Int.ofNat 32))) h3 (fun v4 h5 => Q 246 (some [true, true]) [v4, AV.v (Value.int IntKind.i64 (Int.ofNat 32))] h5 k)) (Q 246 (some [true, true]) [v0, AV.v (Value.int IntKind.i64 (Int.ofNat 0))] h3 k))))
theorem B_246_eq (R : Prims) (Q : QT) (vals : List AV) (H : AH) (k : K2) : B_246 R Q vals H k = blockG R Tryz.prog plans cuts Q 246 none vals H k := by kernel_rfl
noncomputable def B_246_11 (R : Prims) (Q : QT) (vals : List AV) (H : AH) (k : K2) : Bool :=
  R.arg vals (fun v0 l1 => R.arg l1 (fun v2 l3 => R.none l3 (R.bin BinOp.geq 422 v0 (AV.v (Value.int IntKind.u64 (Int.ofNat 65536))) H (fun v4 h5 => R.br v4 (R.bin BinOp.shr 422 v0 (AV.v (Value.int IntKind.u64 (Int.ofNat 16))) h5 (fun v6 h7 => R.bin BinOp.add 3 v2 (AV.v (Value.int IntKind.i64 (Int.ofNat 16))) h7 (fun v8 h9 => Q 246 (some [true, true, true]) [v6, v8] h9 k))) (Q 246 (some [true, true, true]) [v0, v2] h5 k)))))
theorem B_246_11_eq (R : Prims) (Q : QT) (vals : List AV) (H : AH) (k : K2) : B_246_11 R Q vals H k = blockG R Tryz.prog plans cuts Q 246 (some [true, true]) vals H k := by kernel_rfl
noncomputable def B_246_111 (R : Prims) (Q : QT) (vals : List AV) (H : AH) (k : K2) : Bool :=
  R.arg vals (fun v0 l1 => R.arg l1 (fun v2 l3 => R.none l3 (R.bin BinOp.geq 422 v0 (AV.v (Value.int IntKind.u64 (Int.ofNat 256))) H (fun v4 h5 => R.br v4 (R.bin BinOp.shr 422 v0 (AV.v (Value.int IntKind.u64 (Int.ofNat 8))) h5 (fun v6 h7 => R.bin BinOp.add 3 v2 (AV.v (Value.int IntKind.i64 (Int.ofNat 8))) h7 (fun v8 h9 => Q 246 (some [true, true, true, true]) [v6, v8] h9 k))) (Q 246 (some [true, true, true, true]) [v0, v2] h5 k)))))
theorem B_246_111_eq (R : Prims) (Q : QT) (vals : List AV) (H : AH) (k : K2) : B_246_111 R Q vals H k = blockG R Tryz.prog plans cuts Q 246 (some [true, true, true]) vals H k := by kernel_rfl
noncomputable def B_246_1111 (R : Prims) (Q : QT) (vals : List AV) (H : AH) (k : K2) : Bool :=
  R.arg vals (fun v0 l1 => R.arg l1 (fun v2 l3 => R.none l3 (R.conv 422 5 v0 H (fun v4 h5 => R.index 9 (AV.v (Value.string ⟨#[0, 1, 2, 2, 3, 3, 3, 3, 4, 4, 4, 4, 4, 4, 4, 4, 5, 5, 5, 5, 5, 5, 5, 5, 5, 5, 5, 5, 5, 5, 5, 5, 6, 6, 6, 6, 6, 6, 6, 6, 6, 6, 6, 6, 6, 6, 6, 6, 6, 6, 6, 6, 6, 6, 6, 6, 6, 6, 6, 6, 6, 6, 6, 6, 7, 7, 7, 7, 7, 7, 7, 7, 7, 7, 7, 7, 7, 7, 7, 7, 7, 7, 7, 7, 7, 7, 7, 7, 7, 7, 7, 7, 7, 7, 7, 7, 7, 7, 7, 7, 7, 7, 7, 7, 7, 7, 7, 7, 7, 7, 7, 7, 7, 7, 7, 7, 7, 7, 7, 7, 7, 7, 7, 7, 7, 7, 7, 7, 8, 8, 8, 8, 8, 8, 8, 8, 8, 8, 8, 8, 8, 8, 8, 8, 8, 8, 8, 8, 8, 8, 8, 8, 8, 8, 8, 8, 8, 8, 8, 8, 8, 8, 8, 8, 8, 8, 8, 8, 8, 8, 8, 8, 8, 8, 8, 8, 8, 8, 8, 8, 8, 8, 8, 8, 8, 8, 8, 8, 8, 8, 8, 8, 8, 8, 8, 8, 8, 8, 8, 8, 8, 8, 8, 8, 8, 8, 8, 8, 8, 8, 8, 8, 8, 8, 8, 8, 8, 8, 8, 8, 8, 8, 8, 8, 8, 8, 8, 8, 8, 8, 8, 8, 8, 8, 8, 8, 8, 8, 8, 8, 8, 8, 8, 8, 8, 8, 8, 8, 8, 8, 8, 8, 8, 8, 8, 8]⟩)) v4 h5 (fun v6 h7 => R.conv 5 3 v6 h7 (fun v8 h9 => R.bin BinOp.add 3 v2 v8 h9 (fun v10 h11 => k v10 h11)))))))
theorem B_246_1111_eq (R : Prims) (Q : QT) (vals : List AV) (H : AH) (k : K2) : B_246_1111 R Q vals H k = blockG R Tryz.prog plans cuts Q 246 (some [true, true, true, true]) vals H k := by kernel_rfl
theorem mixed : Tryz.prog.follows .mixedOrders = true := by kernel_rfl
noncomputable def rowsS : List Row := [
  (141, none, ⟨B_141 (rc Tryz.prog)⟩),
  (203, none, ⟨B_203 (rc Tryz.prog)⟩),
  (203, (some [true, true, false]), ⟨B_203_110 (rc Tryz.prog)⟩),
  (203, (some [true, true, false, false, false, true, true, true, true]), ⟨B_203_110001111 (rc Tryz.prog)⟩),
  (203, (some [true, true, false, false, false, true, true, true, true, true, true]), ⟨B_203_11000111111 (rc Tryz.prog)⟩),
  (203, (some [true, true, false, false, false, true, true, true, true, true, true, true]), ⟨B_203_110001111111 (rc Tryz.prog)⟩),
  (204, none, ⟨B_204 (rc Tryz.prog)⟩),
  (236, none, ⟨B_236 (rc Tryz.prog)⟩),
  (236, (some [true, false]), ⟨B_236_10 (rc Tryz.prog)⟩),
  (236, (some [true, false, false, true, false, false, true, false]), ⟨B_236_10010010 (rc Tryz.prog)⟩),
  (245, none, ⟨B_245 (rc Tryz.prog)⟩),
  (245, (some [true, true]), ⟨B_245_11 (rc Tryz.prog)⟩),
  (245, (some [true, true, true]), ⟨B_245_111 (rc Tryz.prog)⟩),
  (246, none, ⟨B_246 (rc Tryz.prog)⟩),
  (246, (some [true, true]), ⟨B_246_11 (rc Tryz.prog)⟩),
  (246, (some [true, true, true]), ⟨B_246_111 (rc Tryz.prog)⟩),
  (246, (some [true, true, true, true]), ⟨B_246_1111 (rc Tryz.prog)⟩)]
theorem goodS : GoodL Tryz.prog cuts rowsS := ⟨
  .of_eq mixed (OkF.of ok_141) B_141_eq,
  .of_eq mixed (OkF.of ok_203) B_203_eq,
  .of_eq mixed (OkF.of ok_203) B_203_110_eq,
  .of_eq mixed (OkF.of ok_203) B_203_110001111_eq,
  .of_eq mixed (OkF.of ok_203) B_203_11000111111_eq,
  .of_eq mixed (OkF.of ok_203) B_203_110001111111_eq,
  .of_eq mixed (OkF.of ok_204) B_204_eq,
  .of_eq mixed (OkF.of ok_236) B_236_eq,
  .of_eq mixed (OkF.of ok_236) B_236_10_eq,
  .of_eq mixed (OkF.of ok_236) B_236_10010010_eq,
  .of_eq mixed (OkF.of ok_245) B_245_eq,
  .of_eq mixed (OkF.of ok_245) B_245_11_eq,
  .of_eq mixed (OkF.of ok_245) B_245_111_eq,
  .of_eq mixed (OkF.of ok_246) B_246_eq,
  .of_eq mixed (OkF.of ok_246) B_246_11_eq,
  .of_eq mixed (OkF.of ok_246) B_246_111_eq,
  .of_eq mixed (OkF.of ok_246) B_246_1111_eq, trivial⟩
def isUnit (a : AV) : Bool := match a with
  | .v (.tuple vs) => vs.size == 0
  | .tup [] => true
  | _ => false
theorem isUnit_elim {ρ : Names} {a : AV} {v : Value} (h : isUnit a = true) (g : R ρ a v) : v = .tuple #[] := by
  unfold isUnit at h
  split at h
  · cases g
    simp only [beq_iff_eq, Array.size_eq_zero_iff] at h
    rw [h]
  · cases g with
    | tup g => cases g; rfl
  · cases h
theorem nil_run : runQ (findR rowsS) 1000000 141 none [.v (.slice none 0 0)] ⟨.e, 0⟩ (fun a _ => isUnit a) = true := by kernel_rfl
theorem sortNil_ok (h : Hp) (kk : Value → Hp → Prop) (hk : kk (.tuple #[]) h) : EnterA Tryz.prog 141 [.slice none 0 0] h kk :=
  EnterA.frame0 (k := fun v _ => v = .tuple #[]) (runQ_sound (findR_good goodS) 1000000 141 none [.v (.slice none 0 0)] ⟨.e, 0⟩ _ nil_run [.slice none 0 0] hp0 [] _ rel0 (.cons (.v _) .nil) fun _ _ _ _ _ _ _ g he => isUnit_elim he g) fun v h0 hv => by subst hv; exact hk
end Go.Sl
