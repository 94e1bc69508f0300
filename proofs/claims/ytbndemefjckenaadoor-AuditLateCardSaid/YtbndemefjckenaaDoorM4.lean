/- Of our own, laid together by program: Functions of the program as predicate transformers (laid by gen.py). All functions. slices.IndexFunc. slices.Delete, at questions. slices.Clone, slices.DeleteFunc. The auditor. A question is drawn. Rows of rows; rows that are made; iterators. Rows that are made; arrays that are read as rows. slices.Chunk, of bytes and of ids. The leaves of bytes. SHA-256 by plain numbers. The digest's small functions. The digest: the ring. The digest of 64 bytes. The digest of 64 bytes: the code. The digest of 64 bytes: a round. The digest of 64 bytes: all rounds. The digest of 64 bytes: the words; the whole function. The digest of a row of bytes: the plain side, the small parts. The digest of a row of bytes: the code. The digest of a row of bytes: its length, its blocks. The digest of a row of bytes: the whole. What is digested. Pairs, crowns, leaves' digests. -/
import Derived.Test.YtbndemefjckenaaDoorM3
import Derived.Lib.AppendZeros
section
set_option linter.unusedVariables false
set_option linter.unusedSimpArgs false
set_option linter.unusedVariables false
set_option maxRecDepth 20000
namespace Go.Px
open Go Go.Proofs
def F83_p1 (P : Program) (next1 : Env → World → Prop) (e2 : Env) (w : World) : Prop :=
  Drew (fun w => Draw (fun S1 w => RdNow P (Instr.indexAt 65 (e2 0) (e2 7)) w (fun v20 => RdNow P (Instr.loadAt 3 v20) w (fun v21 => RdS P (S1 0) (Instr.indexAt 65 (e2 0) (e2 6)) (fun v24 => RdNow P (Instr.loadAt 3 v24) w (fun v25 => RdNow P (Instr.indexAt 65 (e2 0) (e2 6)) w (fun v26 => Do P (Instr.storeAt 3 v26 v21) (fun _ w => RdNow P (Instr.indexAt 65 (e2 0) (e2 7)) w (fun v27 => Do P (Instr.storeAt 3 v27 v25) (fun _ w => Do P (binOp .add 3 (e2 6) (Value.int .i64 1)) (fun v29 w => Do P (binOp .sub 3 (e2 7) (Value.int .i64 1)) (fun v31 w => @Eq (List Nat) [] [] ∧ next1 (upd (upd (upd (upd (upd (upd (upd (upd (upd (upd (upd (upd (upd (upd (upd (upd (upd (upd (upd (upd e2 14 (e2 0)) 15 (e2 6)) 16 (e2 0)) 17 (e2 7)) 18 (e2 0)) 19 (e2 7)) 20 v20) 21 v21) 22 (e2 0)) 23 (e2 6)) 24 v24) 25 v25) 26 v26) 27 v27) 28 (e2 6)) 29 v29) 6 v29) 30 (e2 7)) 31 v31) 7 v31) w) w) w) w)) w)))))) w) w

/-- slices.reverseRangeOrdered[int] -/
def F83 (P : Program) (K : Value → World → Prop) (v0 v1 v2 : Value) (w : World) : Prop :=
  Do P (binOp .sub 3 v2 (Value.int .i64 1)) (fun v10 w => Loop [11, 12, 13, 14, 15, 16, 17, 18, 19, 20, 21, 22, 23, 24, 25, 26, 27, 28, 29, 6, 30, 31, 7] (upd (upd (upd (upd (upd (env0 [v0, v1, v2]) 8 v1) 6 v1) 9 v2) 10 v10) 7 v10) w (fun e1 next1 w => JoinC P (F83_p1 P next1) (fun j1 => Do P (binOp .lss 3 (e1 6) (e1 7)) (fun v13 w => Cond v13 (@Eq (List Nat) [] [] ∧ j1 (upd (upd (upd e1 11 (e1 6)) 12 (e1 7)) 13 v13) w) (K (Value.tuple #[]) w)) w))) w

def H83 : Hints := [(3, true, false, [0, 0, 0, 0, 0, 0, 0, 0, 0, 0, 0, 0, 0, 0, 0, 0], .rd 0 true 0 (.rd 1 true 0 (.rd 2 true 0 (.rd 3 true 0 (.rd 4 true 0 (.rd 5 true 0 (.rd 6 true 0 (.rd 7 true 0 (.rd 8 true 0 (.rd 9 true 0 (.rd 10 false 0 (.rd 11 true 0 (.rd 12 true 0 (.ch 13 [] (.rd 14 true 0 (.ch 15 [] (.done)))))))))))))))))]

theorem F83_eq (K : Value → World → Prop) (v0 v1 v2 : Value) (w : World) : F83 Tryd.prog K v0 v1 v2 w = pt Tryd.prog H83 none Tryd.f83.ntmps (bodyOf Tryd.f83) (RetQ Tryd.prog Tryd.f83.results K) (env0 [v0, v1, v2]) [] w := by kernel_rfl

theorem F83_ok : codeOk cvTryd H83 (bodyOf Tryd.f83) = true := by kernel_rfl

theorem F83_has : Tryd.f83.body.isSome = true ∧ Nat.ble 3 Tryd.f83.ntmps = true := ⟨by kernel_rfl, by kernel_rfl⟩

theorem F83_calls {K : Value → World → Prop} {v0 v1 v2 : Value} {w : World} (h : F83 Tryd.prog K v0 v1 v2 w) : Calls Tryd.prog 83 #[v0, v1, v2] w (Returns K) :=
  calls_of_eq (cv := cvTryd) (H := H83) (fn := Tryd.f83) (args := [v0, v1, v2]) mixedTryd Tryd.func83 F83_has F83_ok (F83_eq K v0 v1 v2 w) h

def F84_p1 (P : Program) (j9 : Env → World → Prop) (e12 : Env) (w : World) : Prop :=
  Drew (fun w => Draw (fun S2 w => RdS P (S2 1) (binOp .sub 3 (e12 10) (Value.int .i64 1)) (fun v121 => RdNow P (binOp .sub 3 (e12 10) (Value.int .i64 1)) w (fun v124 => RdNow P (Instr.indexAt 65 (e12 0) v124) w (fun v125 => RdNow P (Instr.loadAt 3 v125) w (fun v126 => RdS P (S2 0) (Instr.indexAt 65 (e12 0) (e12 10)) (fun v129 => RdNow P (Instr.loadAt 3 v129) w (fun v130 => RdNow P (Instr.indexAt 65 (e12 0) (e12 10)) w (fun v131 => Do P (Instr.storeAt 3 v131 v126) (fun _ w => S2 1 w ∧ (RdNow P (Instr.indexAt 65 (e12 0) v121) w (fun v132 => Do P (Instr.storeAt 3 v132 v130) (fun _ w => @Eq (List Nat) [] [] ∧ j9 (upd (upd (upd (upd (upd (upd (upd (upd (upd (upd (upd (upd (upd (upd (upd (upd e12 117 (e12 0)) 118 (e12 10)) 119 (e12 0)) 120 (e12 10)) 121 v121) 122 (e12 0)) 123 (e12 10)) 124 v124) 125 v125) 126 v126) 127 (e12 0)) 128 (e12 10)) 129 v129) 130 v130) 131 v131) 132 v132) w) w))) w)))))))) w) w

def F84_p2 (P : Program) (next2 : Env → World → Prop) (j3 : Env → World → Prop) (e10 : Env) (w : World) : Prop :=
  JoinC P (fun e11 w => Do P (binOp .add 3 (e11 10) (Value.int .i64 1)) (fun v105 w => @Eq (List Nat) [] [] ∧ next2 (upd (upd (upd e11 104 (e11 10)) 105 v105) 10 v105) w) w) (fun j9 => JoinC P (F84_p1 P j9) (fun j10 => Drew (fun w => Draw (fun S3 w => RdS P (S3 0) (Instr.indexAt 65 (e10 0) (e10 10)) (fun v108 => RdNow P (Instr.loadAt 3 v108) w (fun v109 => RdS P (S3 0) (binOp .sub 3 (e10 10) (Value.int .i64 1)) (fun v112 => RdS P (S3 0) (Instr.indexAt 65 (e10 0) v112) (fun v113 => RdNow P (Instr.loadAt 3 v113) w (fun v114 => CallN P (callS (fnv 85) #[v109, v114]) (fun v115 w => RdNow P (Op.unary .not v115) w (fun v116 => Cond v116 (@Eq (List Nat) [] [] ∧ j3 (upd (upd (upd (upd (upd (upd (upd (upd (upd (upd (upd e10 106 (e10 0)) 107 (e10 10)) 108 v108) 109 v109) 110 (e10 0)) 111 (e10 10)) 112 v112) 113 v113) 114 v114) 115 v115) 116 v116) w) (@Eq (List Nat) [] [] ∧ j10 (upd (upd (upd (upd (upd (upd (upd (upd (upd (upd (upd e10 106 (e10 0)) 107 (e10 10)) 108 v108) 109 v109) 110 (e10 0)) 111 (e10 10)) 112 v112) 113 v113) 114 v114) 115 v115) 116 v116) w))) w)))))) w) w))

def F84_p3 (P : Program) (j3 : Env → World → Prop) (e8 : Env) (w : World) : Prop :=
  Do P (binOp .sub 3 (e8 2) (e8 7)) (fun v97 w => Do P (binOp .geq 3 v97 (Value.int .i64 2)) (fun v98 w => Cond v98 (Do P (binOp .add 3 (e8 7) (Value.int .i64 1)) (fun v100 w => Loop [101, 102, 103, 106, 107, 108, 109, 110, 111, 112, 113, 114, 115, 116, 117, 118, 119, 120, 121, 122, 123, 124, 125, 126, 127, 128, 129, 130, 131, 132, 104, 105, 10] (upd (upd (upd (upd (upd (upd (upd e8 95 (e8 2)) 96 (e8 7)) 97 v97) 98 v98) 99 (e8 7)) 100 v100) 10 v100) w (fun e9 next2 w => JoinC P (F84_p2 P next2 j3) (fun j8 => Do P (binOp .lss 3 (e9 10) (e9 2)) (fun v103 w => Cond v103 (@Eq (List Nat) [] [] ∧ j8 (upd (upd (upd e9 101 (e9 10)) 102 (e9 2)) 103 v103) w) (@Eq (List Nat) [] [] ∧ j3 (upd (upd (upd e9 101 (e9 10)) 102 (e9 2)) 103 v103) w)) w))) w) (@Eq (List Nat) [] [] ∧ j3 (upd (upd (upd (upd e8 95 (e8 2)) 96 (e8 7)) 97 v97) 98 v98) w)) w) w

def F84_p4 (P : Program) (j12 : Env → World → Prop) (e16 : Env) (w : World) : Prop :=
  Drew (fun w => Draw (fun S4 w => RdS P (S4 1) (binOp .sub 3 (e16 9) (Value.int .i64 1)) (fun v83 => RdNow P (binOp .sub 3 (e16 9) (Value.int .i64 1)) w (fun v86 => RdNow P (Instr.indexAt 65 (e16 0) v86) w (fun v87 => RdNow P (Instr.loadAt 3 v87) w (fun v88 => RdS P (S4 0) (Instr.indexAt 65 (e16 0) (e16 9)) (fun v91 => RdNow P (Instr.loadAt 3 v91) w (fun v92 => RdNow P (Instr.indexAt 65 (e16 0) (e16 9)) w (fun v93 => Do P (Instr.storeAt 3 v93 v88) (fun _ w => S4 1 w ∧ (RdNow P (Instr.indexAt 65 (e16 0) v83) w (fun v94 => Do P (Instr.storeAt 3 v94 v92) (fun _ w => @Eq (List Nat) [] [] ∧ j12 (upd (upd (upd (upd (upd (upd (upd (upd (upd (upd (upd (upd (upd (upd (upd (upd e16 79 (e16 0)) 80 (e16 9)) 81 (e16 0)) 82 (e16 9)) 83 v83) 84 (e16 0)) 85 (e16 9)) 86 v86) 87 v87) 88 v88) 89 (e16 0)) 90 (e16 9)) 91 v91) 92 v92) 93 v93) 94 v94) w) w))) w)))))))) w) w

def F84_p5 (P : Program) (next3 : Env → World → Prop) (j7 : Env → World → Prop) (e14 : Env) (w : World) : Prop :=
  JoinC P (fun e15 w => Do P (binOp .sub 3 (e15 9) (Value.int .i64 1)) (fun v67 w => @Eq (List Nat) [] [] ∧ next3 (upd (upd (upd e15 66 (e15 9)) 67 v67) 9 v67) w) w) (fun j12 => JoinC P (F84_p4 P j12) (fun j13 => Drew (fun w => Draw (fun S5 w => RdS P (S5 0) (Instr.indexAt 65 (e14 0) (e14 9)) (fun v70 => RdNow P (Instr.loadAt 3 v70) w (fun v71 => RdS P (S5 0) (binOp .sub 3 (e14 9) (Value.int .i64 1)) (fun v74 => RdS P (S5 0) (Instr.indexAt 65 (e14 0) v74) (fun v75 => RdNow P (Instr.loadAt 3 v75) w (fun v76 => CallN P (callS (fnv 85) #[v71, v76]) (fun v77 w => RdNow P (Op.unary .not v77) w (fun v78 => Cond v78 (@Eq (List Nat) [] [] ∧ j7 (upd (upd (upd (upd (upd (upd (upd (upd (upd (upd (upd e14 68 (e14 0)) 69 (e14 9)) 70 v70) 71 v71) 72 (e14 0)) 73 (e14 9)) 74 v74) 75 v75) 76 v76) 77 v77) 78 v78) w) (@Eq (List Nat) [] [] ∧ j13 (upd (upd (upd (upd (upd (upd (upd (upd (upd (upd (upd e14 68 (e14 0)) 69 (e14 9)) 70 v70) 71 v71) 72 (e14 0)) 73 (e14 9)) 74 v74) 75 v75) 76 v76) 77 v77) 78 v78) w))) w)))))) w) w))

def F84_p6 (P : Program) (j3 : Env → World → Prop) (e7 : Env) (w : World) : Prop :=
  Drew (fun w => Draw (fun S1 w => RdS P (S1 1) (binOp .sub 3 (e7 7) (Value.int .i64 1)) (fun v46 => RdNow P (binOp .sub 3 (e7 7) (Value.int .i64 1)) w (fun v49 => RdNow P (Instr.indexAt 65 (e7 0) v49) w (fun v50 => RdNow P (Instr.loadAt 3 v50) w (fun v51 => RdS P (S1 0) (Instr.indexAt 65 (e7 0) (e7 7)) (fun v54 => RdNow P (Instr.loadAt 3 v54) w (fun v55 => RdNow P (Instr.indexAt 65 (e7 0) (e7 7)) w (fun v56 => Do P (Instr.storeAt 3 v56 v51) (fun _ w => S1 1 w ∧ (RdNow P (Instr.indexAt 65 (e7 0) v46) w (fun v57 => Do P (Instr.storeAt 3 v57 v55) (fun _ w => JoinC P (F84_p3 P j3) (fun j7 => Do P (binOp .sub 3 (e7 7) (e7 1)) (fun v60 w => Do P (binOp .geq 3 v60 (Value.int .i64 2)) (fun v61 w => Cond v61 (Do P (binOp .sub 3 (e7 7) (Value.int .i64 1)) (fun v63 w => Loop [64, 65, 68, 69, 70, 71, 72, 73, 74, 75, 76, 77, 78, 79, 80, 81, 82, 83, 84, 85, 86, 87, 88, 89, 90, 91, 92, 93, 94, 66, 67, 9] (upd (upd (upd (upd (upd (upd (upd (upd (upd (upd (upd (upd (upd (upd (upd (upd (upd (upd (upd (upd (upd (upd (upd e7 42 (e7 0)) 43 (e7 7)) 44 (e7 0)) 45 (e7 7)) 46 v46) 47 (e7 0)) 48 (e7 7)) 49 v49) 50 v50) 51 v51) 52 (e7 0)) 53 (e7 7)) 54 v54) 55 v55) 56 v56) 57 v57) 58 (e7 7)) 59 (e7 1)) 60 v60) 61 v61) 62 (e7 7)) 63 v63) 9 v63) w (fun e13 next3 w => JoinC P (F84_p5 P next3 j7) (fun j11 => Do P (binOp .geq 3 (e13 9) (Value.int .i64 1)) (fun v65 w => Cond v65 (@Eq (List Nat) [] [] ∧ j11 (upd (upd e13 64 (e13 9)) 65 v65) w) (@Eq (List Nat) [] [] ∧ j7 (upd (upd e13 64 (e13 9)) 65 v65) w)) w))) w) (@Eq (List Nat) [] [] ∧ j7 (upd (upd (upd (upd (upd (upd (upd (upd (upd (upd (upd (upd (upd (upd (upd (upd (upd (upd (upd (upd e7 42 (e7 0)) 43 (e7 7)) 44 (e7 0)) 45 (e7 7)) 46 v46) 47 (e7 0)) 48 (e7 7)) 49 v49) 50 v50) 51 v51) 52 (e7 0)) 53 (e7 7)) 54 v54) 55 v55) 56 v56) 57 v57) 58 (e7 7)) 59 (e7 1)) 60 v60) 61 v61) w)) w) w)) w))) w)))))))) w) w

def F84_p7 (P : Program) (j4 : Env → World → Prop) (e17 : Env) (next4 : Env → World → Prop) (w : World) : Prop :=
  JoinC P (fun e18 w => Do P (binOp .add 3 (e18 7) (Value.int .i64 1)) (fun v34 w => @Eq (List Nat) [] [] ∧ next4 (upd (upd (upd e18 33 (e18 7)) 34 v34) 7 v34) w) w) (fun j14 => Drew (fun w => Draw (fun S6 w => RdS P (S6 0) (binOp .lss 3 (e17 7) (e17 2)) (fun v19 => Join (fun e19 w => RdNowN P (pickS (e19 20) (e19 31) (Value.bool false)) w (fun v32 => Cond v32 (@Eq (List Nat) [] [] ∧ j14 (upd e19 32 v32) w) (@Eq (List Nat) [] [] ∧ j4 (upd e19 32 v32) w))) (fun k1 => Guard v19 true (RdS P (S6 0) (Instr.indexAt 65 (e17 0) (e17 7)) (fun v23 => RdNow P (Instr.loadAt 3 v23) w (fun v24 => RdS P (S6 0) (binOp .sub 3 (e17 7) (Value.int .i64 1)) (fun v27 => RdS P (S6 0) (Instr.indexAt 65 (e17 0) v27) (fun v28 => RdNow P (Instr.loadAt 3 v28) w (fun v29 => CallN P (callS (fnv 85) #[v24, v29]) (fun v30 w => (S6 0) w ∧ (RdNow P (Op.unary .not v30) w (fun v31 => k1 (upd (upd (upd (upd (upd (upd (upd (upd (upd (upd (upd (upd (upd (upd (upd e17 17 (e17 7)) 18 (e17 2)) 19 v19) 20 v19) 21 (e17 0)) 22 (e17 7)) 23 v23) 24 v24) 25 (e17 0)) 26 (e17 7)) 27 v27) 28 v28) 29 v29) 30 v30) 31 v31) w))) w)))))) (k1 (upd (upd (upd (upd (upd (upd (upd (upd (upd (upd (upd (upd (upd (upd (upd e17 17 (e17 7)) 18 (e17 2)) 19 v19) 20 v19) 21 undef) 22 undef) 23 undef) 24 undef) 25 undef) 26 undef) 27 undef) 28 undef) 29 undef) 30 undef) 31 undef) w)))) w) w)

def F84_p8 (P : Program) (next1 : Env → World → Prop) (K : Value → World → Prop) (e3 : Env) (w : World) : Prop :=
  JoinC P (fun e4 w => Do P (binOp .add 3 (e4 8) (Value.int .i64 1)) (fun v16 w => @Eq (List Nat) [] [] ∧ next1 (upd (upd (upd e4 15 (e4 8)) 16 v16) 8 v16) w) w) (fun j3 => JoinC P (fun e5 w => JoinC P (fun e6 w => JoinC P (F84_p6 P j3) (fun j6 => Do P (binOp .sub 3 (e6 2) (e6 1)) (fun v40 w => Do P (binOp .lss 3 v40 (Value.int .i64 50)) (fun v41 w => Cond v41 (K (Value.bool false) w) (@Eq (List Nat) [] [] ∧ j6 (upd (upd (upd (upd e6 38 (e6 2)) 39 (e6 1)) 40 v40) 41 v41) w)) w) w)) (fun j5 => Do P (eqS .eql 3 false false (e5 7) (e5 2)) (fun v37 w => Cond v37 (K (Value.bool true) w) (@Eq (List Nat) [] [] ∧ j5 (upd (upd (upd e5 35 (e5 7)) 36 (e5 2)) 37 v37) w)) w)) (fun j4 => Loop [17, 18, 19, 20, 21, 22, 23, 24, 25, 26, 27, 28, 29, 30, 31, 32, 33, 34, 7] e3 w (F84_p7 P j4)))

/-- slices.partialInsertionSortOrdered[int] -/
def F84 (P : Program) (K : Value → World → Prop) (v0 v1 v2 : Value) (w : World) : Prop :=
  Do P (binOp .add 3 v1 (Value.int .i64 1)) (fun v12 w => JoinC P (fun e1 w => K (Value.bool false) w) (fun j1 => Loop [13, 14, 17, 18, 19, 20, 21, 22, 23, 24, 25, 26, 27, 28, 29, 30, 31, 32, 33, 34, 7, 35, 36, 37, 6, 38, 39, 40, 41, 42, 43, 44, 45, 46, 47, 48, 49, 50, 51, 52, 53, 54, 55, 56, 57, 58, 59, 60, 61, 62, 63, 9, 64, 65, 68, 69, 70, 71, 72, 73, 74, 75, 76, 77, 78, 79, 80, 81, 82, 83, 84, 85, 86, 87, 88, 89, 90, 91, 92, 93, 94, 66, 67, 95, 96, 97, 98, 99, 100, 10, 101, 102, 103, 106, 107, 108, 109, 110, 111, 112, 113, 114, 115, 116, 117, 118, 119, 120, 121, 122, 123, 124, 125, 126, 127, 128, 129, 130, 131, 132, 104, 105, 15, 16, 8] (upd (upd (upd (upd (upd (env0 [v0, v1, v2]) 6 (Value.bool false)) 11 v1) 12 v12) 7 v12) 8 (Value.int .i64 0)) w (fun e2 next1 w => JoinC P (F84_p8 P next1 K) (fun j2 => Do P (binOp .lss 3 (e2 8) (Value.int .i64 5)) (fun v14 w => Cond v14 (@Eq (List Nat) [] [] ∧ j2 (upd (upd e2 13 (e2 8)) 14 v14) w) (@Eq (List Nat) [] [] ∧ j1 (upd (upd e2 13 (e2 8)) 14 v14) w)) w)))) w

def H84 : Hints := [(5, true, false, [0, 0, 0, 0, 0, 0, 0, 0, 0, 0, 0, 0, 0, 0, 0, 0], .rd 0 true 0 (.rd 1 true 0 (.rd 2 false 0 (.rd 3 true 0 (.grp 3 true [(4, some true), (5, some true), (6, some false), (7, some true), (8, some true), (9, some true), (10, some false), (11, some false), (12, some true), (13, none), (14, some true)] (.rd 15 true 0 (.done))))))), (11, true, false, [0, 0, 0, 0, 1, 0, 0, 0, 0, 0, 0, 0, 0, 0, 0, 0, 0, 0], .rd 0 true 0 (.rd 1 true 0 (.rd 2 true 0 (.rd 3 true 0 (.rd 4 false 1 (.rd 5 true 0 (.rd 6 true 0 (.rd 7 true 0 (.rd 8 true 0 (.rd 9 true 0 (.rd 10 true 0 (.rd 11 true 0 (.rd 12 false 0 (.rd 13 true 0 (.rd 14 true 0 (.ch 15 [1] (.rd 16 true 0 (.ch 17 [] (.done))))))))))))))))))), (16, true, false, [0, 0, 0, 0, 0, 0, 0, 0, 0, 0, 0], .rd 0 true 0 (.rd 1 true 0 (.rd 2 false 0 (.rd 3 true 0 (.rd 4 true 0 (.rd 5 true 0 (.rd 6 false 0 (.rd 7 false 0 (.rd 8 true 0 (.ch 9 [] (.rd 10 true 0 (.done)))))))))))), (17, true, false, [0, 0, 0, 0, 1, 0, 0, 0, 0, 0, 0, 0, 0, 0, 0, 0, 0, 0], .rd 0 true 0 (.rd 1 true 0 (.rd 2 true 0 (.rd 3 true 0 (.rd 4 false 1 (.rd 5 true 0 (.rd 6 true 0 (.rd 7 true 0 (.rd 8 true 0 (.rd 9 true 0 (.rd 10 true 0 (.rd 11 true 0 (.rd 12 false 0 (.rd 13 true 0 (.rd 14 true 0 (.ch 15 [1] (.rd 16 true 0 (.ch 17 [] (.done))))))))))))))))))), (22, true, false, [0, 0, 0, 0, 0, 0, 0, 0, 0, 0, 0], .rd 0 true 0 (.rd 1 true 0 (.rd 2 false 0 (.rd 3 true 0 (.rd 4 true 0 (.rd 5 true 0 (.rd 6 false 0 (.rd 7 false 0 (.rd 8 true 0 (.ch 9 [] (.rd 10 true 0 (.done)))))))))))), (23, true, false, [0, 0, 0, 0, 1, 0, 0, 0, 0, 0, 0, 0, 0, 0, 0, 0, 0, 0], .rd 0 true 0 (.rd 1 true 0 (.rd 2 true 0 (.rd 3 true 0 (.rd 4 false 1 (.rd 5 true 0 (.rd 6 true 0 (.rd 7 true 0 (.rd 8 true 0 (.rd 9 true 0 (.rd 10 true 0 (.rd 11 true 0 (.rd 12 false 0 (.rd 13 true 0 (.rd 14 true 0 (.ch 15 [1] (.rd 16 true 0 (.ch 17 [] (.done)))))))))))))))))))]

theorem F84_eq (K : Value → World → Prop) (v0 v1 v2 : Value) (w : World) : F84 Tryd.prog K v0 v1 v2 w = pt Tryd.prog H84 none Tryd.f84.ntmps (bodyOf Tryd.f84) (RetQ Tryd.prog Tryd.f84.results K) (env0 [v0, v1, v2]) [] w := by kernel_rfl

theorem F84_ok : codeOk cvTryd H84 (bodyOf Tryd.f84) = true := by kernel_rfl

theorem F84_has : Tryd.f84.body.isSome = true ∧ Nat.ble 3 Tryd.f84.ntmps = true := ⟨by kernel_rfl, by kernel_rfl⟩

theorem F84_calls {K : Value → World → Prop} {v0 v1 v2 : Value} {w : World} (h : F84 Tryd.prog K v0 v1 v2 w) : Calls Tryd.prog 84 #[v0, v1, v2] w (Returns K) :=
  calls_of_eq (cv := cvTryd) (H := H84) (fn := Tryd.f84) (args := [v0, v1, v2]) mixedTryd Tryd.func84 F84_has F84_ok (F84_eq K v0 v1 v2 w) h

/-- cmp.Less[int] -/
def F85 (P : Program) (K : Value → World → Prop) (v0 v1 : Value) (w : World) : Prop :=
  CallN P (callS (fnv 97) #[v0]) (fun v6 w => Join (fun e1 w => CallN P (pickS (e1 7) (e1 10) (Value.bool false)) (fun v11 w => Join (fun e2 w => CallN P (pickS (e2 12) (Value.bool true) (e2 15)) (fun v16 w => K v16 w) w) (fun k2 => Guard v11 false (Do P (binOp .lss 3 (e1 0) (e1 1)) (fun v15 w => k2 (upd (upd (upd (upd (upd e1 11 v11) 12 v11) 13 (e1 0)) 14 (e1 1)) 15 v15) w) w) (k2 (upd (upd (upd (upd (upd e1 11 v11) 12 v11) 13 undef) 14 undef) 15 undef) w))) w) (fun k1 => Guard v6 true (CallN P (callS (fnv 97) #[v1]) (fun v9 w => Do P (Op.unary .not v9) (fun v10 w => k1 (upd (upd (upd (upd (upd (upd (upd (env0 [v0, v1]) 4 (Value.bool false)) 5 v0) 6 v6) 7 v6) 8 v1) 9 v9) 10 v10) w) w) w) (k1 (upd (upd (upd (upd (upd (upd (upd (env0 [v0, v1]) 4 (Value.bool false)) 5 v0) 6 v6) 7 v6) 8 undef) 9 undef) 10 undef) w))) w

def H85 : Hints := [(1, false, false, [], .ch 0 [] (.ch 1 [] (.ch 2 [] (.grp 2 true [(3, none), (4, none), (5, none)] (.ch 6 [] (.ch 7 [] (.grp 7 false [(8, none), (9, none), (10, none)] (.ch 11 [] (.ch 12 [] (.done))))))))))]

theorem F85_eq (K : Value → World → Prop) (v0 v1 : Value) (w : World) : F85 Tryd.prog K v0 v1 w = pt Tryd.prog H85 none Tryd.f85.ntmps (bodyOf Tryd.f85) (RetQ Tryd.prog Tryd.f85.results K) (env0 [v0, v1]) [] w := by kernel_rfl

theorem F85_ok : codeOk cvTryd H85 (bodyOf Tryd.f85) = true := by kernel_rfl

theorem F85_has : Tryd.f85.body.isSome = true ∧ Nat.ble 2 Tryd.f85.ntmps = true := ⟨by kernel_rfl, by kernel_rfl⟩

theorem F85_calls {K : Value → World → Prop} {v0 v1 : Value} {w : World} (h : F85 Tryd.prog K v0 v1 w) : Calls Tryd.prog 85 #[v0, v1] w (Returns K) :=
  calls_of_eq (cv := cvTryd) (H := H85) (fn := Tryd.f85) (args := [v0, v1]) mixedTryd Tryd.func85 F85_has F85_ok (F85_eq K v0 v1 w) h

def F86_p1 (P : Program) (next1 : Env → World → Prop) (e5 : Env) (w : World) : Prop :=
  Drew (fun w => Draw (fun S2 w => RdNow P (Instr.indexAt 65 (e5 0) (e5 10)) w (fun v71 => RdNow P (Instr.loadAt 3 v71) w (fun v72 => RdS P (S2 0) (Instr.indexAt 65 (e5 0) (e5 9)) (fun v75 => RdNow P (Instr.loadAt 3 v75) w (fun v76 => RdNow P (Instr.indexAt 65 (e5 0) (e5 9)) w (fun v77 => Do P (Instr.storeAt 3 v77 v72) (fun _ w => RdNow P (Instr.indexAt 65 (e5 0) (e5 10)) w (fun v78 => Do P (Instr.storeAt 3 v78 v76) (fun _ w => Do P (binOp .add 3 (e5 9) (Value.int .i64 1)) (fun v80 w => Do P (binOp .sub 3 (e5 10) (Value.int .i64 1)) (fun v82 w => @Eq (List Nat) [] [] ∧ next1 (upd (upd (upd (upd (upd (upd (upd (upd (upd (upd (upd (upd (upd (upd (upd (upd (upd (upd (upd (upd e5 65 (e5 0)) 66 (e5 9)) 67 (e5 0)) 68 (e5 10)) 69 (e5 0)) 70 (e5 10)) 71 v71) 72 v72) 73 (e5 0)) 74 (e5 9)) 75 v75) 76 v76) 77 v77) 78 v78) 79 (e5 9)) 80 v80) 9 v80) 81 (e5 10)) 82 v82) 10 v82) w) w) w) w)) w)))))) w) w

def F86_p2 (P : Program) (j3 : Env → World → Prop) (e6 : Env) (next2 : Env → World → Prop) (w : World) : Prop :=
  JoinC P (fun e7 w => Do P (binOp .sub 3 (e7 10) (Value.int .i64 1)) (fun v61 w => @Eq (List Nat) [] [] ∧ next2 (upd (upd (upd e7 60 (e7 10)) 61 v61) 10 v61) w) w) (fun j5 => Drew (fun w => Draw (fun S3 w => RdS P (S3 0) (binOp .leq 3 (e6 9) (e6 10)) (fun v48 => Join (fun e8 w => RdNowN P (pickS (e8 49) (e8 58) (Value.bool false)) w (fun v59 => Cond v59 (@Eq (List Nat) [] [] ∧ j5 (upd e8 59 v59) w) (@Eq (List Nat) [] [] ∧ j3 (upd e8 59 v59) w))) (fun k1 => Guard v48 true (RdS P (S3 0) (Instr.indexAt 65 (e6 0) (e6 1)) (fun v52 => RdNow P (Instr.loadAt 3 v52) w (fun v53 => RdS P (S3 0) (Instr.indexAt 65 (e6 0) (e6 10)) (fun v56 => RdNow P (Instr.loadAt 3 v56) w (fun v57 => CallN P (callS (fnv 85) #[v53, v57]) (fun v58 w => (S3 0) w ∧ (k1 (upd (upd (upd (upd (upd (upd (upd (upd (upd (upd (upd (upd (upd e6 46 (e6 9)) 47 (e6 10)) 48 v48) 49 v48) 50 (e6 0)) 51 (e6 1)) 52 v52) 53 v53) 54 (e6 0)) 55 (e6 10)) 56 v56) 57 v57) 58 v58) w)) w))))) (k1 (upd (upd (upd (upd (upd (upd (upd (upd (upd (upd (upd (upd (upd e6 46 (e6 9)) 47 (e6 10)) 48 v48) 49 v48) 50 undef) 51 undef) 52 undef) 53 undef) 54 undef) 55 undef) 56 undef) 57 undef) 58 undef) w)))) w) w)

def F86_p3 (P : Program) (j2 : Env → World → Prop) (e9 : Env) (next3 : Env → World → Prop) (w : World) : Prop :=
  JoinC P (fun e10 w => Do P (binOp .add 3 (e10 9) (Value.int .i64 1)) (fun v45 w => @Eq (List Nat) [] [] ∧ next3 (upd (upd (upd e10 44 (e10 9)) 45 v45) 9 v45) w) w) (fun j6 => Drew (fun w => Draw (fun S4 w => RdS P (S4 0) (binOp .leq 3 (e9 9) (e9 10)) (fun v31 => Join (fun e11 w => RdNowN P (pickS (e11 32) (e11 42) (Value.bool false)) w (fun v43 => Cond v43 (@Eq (List Nat) [] [] ∧ j6 (upd e11 43 v43) w) (@Eq (List Nat) [] [] ∧ j2 (upd e11 43 v43) w))) (fun k2 => Guard v31 true (RdS P (S4 0) (Instr.indexAt 65 (e9 0) (e9 1)) (fun v35 => RdNow P (Instr.loadAt 3 v35) w (fun v36 => RdS P (S4 0) (Instr.indexAt 65 (e9 0) (e9 9)) (fun v39 => RdNow P (Instr.loadAt 3 v39) w (fun v40 => CallN P (callS (fnv 85) #[v36, v40]) (fun v41 w => (S4 0) w ∧ (RdNow P (Op.unary .not v41) w (fun v42 => k2 (upd (upd (upd (upd (upd (upd (upd (upd (upd (upd (upd (upd (upd (upd e9 29 (e9 9)) 30 (e9 10)) 31 v31) 32 v31) 33 (e9 0)) 34 (e9 1)) 35 v35) 36 v36) 37 (e9 0)) 38 (e9 9)) 39 v39) 40 v40) 41 v41) 42 v42) w))) w))))) (k2 (upd (upd (upd (upd (upd (upd (upd (upd (upd (upd (upd (upd (upd (upd e9 29 (e9 9)) 30 (e9 10)) 31 v31) 32 v31) 33 undef) 34 undef) 35 undef) 36 undef) 37 undef) 38 undef) 39 undef) 40 undef) 41 undef) 42 undef) w)))) w) w)

def F86_p4 (P : Program) (j1 : Env → World → Prop) (e2 : Env) (next1 : Env → World → Prop) (w : World) : Prop :=
  JoinC P (fun e3 w => JoinC P (fun e4 w => JoinC P (F86_p1 P next1) (fun j4 => Do P (binOp .gtr 3 (e4 9) (e4 10)) (fun v64 w => Cond v64 (@Eq (List Nat) [] [] ∧ j1 (upd (upd (upd e4 62 (e4 9)) 63 (e4 10)) 64 v64) w) (@Eq (List Nat) [] [] ∧ j4 (upd (upd (upd e4 62 (e4 9)) 63 (e4 10)) 64 v64) w)) w)) (fun j3 => Loop [46, 47, 48, 49, 50, 51, 52, 53, 54, 55, 56, 57, 58, 59, 60, 61, 10] e3 w (F86_p2 P j3))) (fun j2 => Loop [29, 30, 31, 32, 33, 34, 35, 36, 37, 38, 39, 40, 41, 42, 43, 44, 45, 9] e2 w (F86_p3 P j2))

/-- slices.partitionEqualOrdered[int] -/
def F86 (P : Program) (K : Value → World → Prop) (v0 v1 v2 v3 : Value) (w : World) : Prop :=
  Drew (fun w => Draw (fun S1 w => RdNow P (Instr.indexAt 65 v0 v3) w (fun v17 => RdNow P (Instr.loadAt 3 v17) w (fun v18 => RdS P (S1 0) (Instr.indexAt 65 v0 v1) (fun v21 => RdNow P (Instr.loadAt 3 v21) w (fun v22 => RdNow P (Instr.indexAt 65 v0 v1) w (fun v23 => Do P (Instr.storeAt 3 v23 v18) (fun _ w => RdNow P (Instr.indexAt 65 v0 v3) w (fun v24 => Do P (Instr.storeAt 3 v24 v22) (fun _ w => Do P (binOp .add 3 v1 (Value.int .i64 1)) (fun v26 w => Do P (binOp .sub 3 v2 (Value.int .i64 1)) (fun v28 w => JoinC P (fun e1 w => K (e1 9) w) (fun j1 => Loop [29, 30, 31, 32, 33, 34, 35, 36, 37, 38, 39, 40, 41, 42, 43, 44, 45, 9, 46, 47, 48, 49, 50, 51, 52, 53, 54, 55, 56, 57, 58, 59, 60, 61, 10, 62, 63, 64, 65, 66, 67, 68, 69, 70, 71, 72, 73, 74, 75, 76, 77, 78, 79, 80, 81, 82] (upd (upd (upd (upd (upd (upd (upd (upd (upd (upd (upd (upd (upd (upd (upd (upd (upd (upd (upd (upd (upd (env0 [v0, v1, v2, v3]) 8 (Value.int .i64 0)) 11 v0) 12 v1) 13 v0) 14 v3) 15 v0) 16 v3) 17 v17) 18 v18) 19 v0) 20 v1) 21 v21) 22 v22) 23 v23) 24 v24) 25 v1) 26 v26) 27 v2) 28 v28) 9 v26) 10 v28) w (F86_p4 P j1))) w) w) w)) w)))))) w) w

def H86 : Hints := [(1, true, false, [0, 0, 0, 0, 0, 0, 0, 0, 0, 0, 0, 0, 0, 0, 0, 0], .rd 0 true 0 (.rd 1 true 0 (.rd 2 true 0 (.rd 3 true 0 (.rd 4 true 0 (.rd 5 true 0 (.rd 6 true 0 (.rd 7 true 0 (.rd 8 true 0 (.rd 9 true 0 (.rd 10 false 0 (.rd 11 true 0 (.rd 12 true 0 (.ch 13 [] (.rd 14 true 0 (.ch 15 [] (.done))))))))))))))))), (3, true, false, [0, 0, 0, 0, 0, 0, 0, 0, 0, 0, 0, 0, 0, 0, 0], .rd 0 true 0 (.rd 1 true 0 (.rd 2 false 0 (.rd 3 true 0 (.grp 3 true [(4, some true), (5, some true), (6, some false), (7, some true), (8, some true), (9, some true), (10, some false), (11, some true), (12, none), (13, some true)] (.rd 14 true 0 (.done))))))), (5, true, false, [0, 0, 0, 0, 0, 0, 0, 0, 0, 0, 0, 0, 0, 0], .rd 0 true 0 (.rd 1 true 0 (.rd 2 false 0 (.rd 3 true 0 (.grp 3 true [(4, some true), (5, some true), (6, some false), (7, some true), (8, some true), (9, some true), (10, some false), (11, some true), (12, none)] (.rd 13 true 0 (.done))))))), (8, true, false, [0, 0, 0, 0, 0, 0, 0, 0, 0, 0, 0, 0, 0, 0, 0, 0], .rd 0 true 0 (.rd 1 true 0 (.rd 2 true 0 (.rd 3 true 0 (.rd 4 true 0 (.rd 5 true 0 (.rd 6 true 0 (.rd 7 true 0 (.rd 8 true 0 (.rd 9 true 0 (.rd 10 false 0 (.rd 11 true 0 (.rd 12 true 0 (.ch 13 [] (.rd 14 true 0 (.ch 15 [] (.done)))))))))))))))))]

theorem F86_eq (K : Value → World → Prop) (v0 v1 v2 v3 : Value) (w : World) : F86 Tryd.prog K v0 v1 v2 v3 w = pt Tryd.prog H86 none Tryd.f86.ntmps (bodyOf Tryd.f86) (RetQ Tryd.prog Tryd.f86.results K) (env0 [v0, v1, v2, v3]) [] w := by kernel_rfl

theorem F86_ok : codeOk cvTryd H86 (bodyOf Tryd.f86) = true := by kernel_rfl

theorem F86_has : Tryd.f86.body.isSome = true ∧ Nat.ble 4 Tryd.f86.ntmps = true := ⟨by kernel_rfl, by kernel_rfl⟩

theorem F86_calls {K : Value → World → Prop} {v0 v1 v2 v3 : Value} {w : World} (h : F86 Tryd.prog K v0 v1 v2 v3 w) : Calls Tryd.prog 86 #[v0, v1, v2, v3] w (Returns K) :=
  calls_of_eq (cv := cvTryd) (H := H86) (fn := Tryd.f86) (args := [v0, v1, v2, v3]) mixedTryd Tryd.func86 F86_has F86_ok (F86_eq K v0 v1 v2 v3 w) h

def F87_p1 (P : Program) (K : Value → World → Prop) (e4 : Env) (w : World) : Prop :=
  Drew (fun w => Draw (fun S3 w => RdNow P (Instr.indexAt 65 (e4 0) (e4 1)) w (fun v159 => RdNow P (Instr.loadAt 3 v159) w (fun v160 => RdS P (S3 0) (Instr.indexAt 65 (e4 0) (e4 11)) (fun v163 => RdNow P (Instr.loadAt 3 v163) w (fun v164 => RdNow P (Instr.indexAt 65 (e4 0) (e4 11)) w (fun v165 => Do P (Instr.storeAt 3 v165 v160) (fun _ w => RdNow P (Instr.indexAt 65 (e4 0) (e4 1)) w (fun v166 => Do P (Instr.storeAt 3 v166 v164) (fun _ w => K (Value.tuple #[(e4 11), (Value.bool false)]) w) w)) w)))))) w) w

def F87_p2 (P : Program) (next1 : Env → World → Prop) (e8 : Env) (w : World) : Prop :=
  Drew (fun w => Draw (fun S4 w => RdNow P (Instr.indexAt 65 (e8 0) (e8 11)) w (fun v141 => RdNow P (Instr.loadAt 3 v141) w (fun v142 => RdS P (S4 0) (Instr.indexAt 65 (e8 0) (e8 10)) (fun v145 => RdNow P (Instr.loadAt 3 v145) w (fun v146 => RdNow P (Instr.indexAt 65 (e8 0) (e8 10)) w (fun v147 => Do P (Instr.storeAt 3 v147 v142) (fun _ w => RdNow P (Instr.indexAt 65 (e8 0) (e8 11)) w (fun v148 => Do P (Instr.storeAt 3 v148 v146) (fun _ w => Do P (binOp .add 3 (e8 10) (Value.int .i64 1)) (fun v150 w => Do P (binOp .sub 3 (e8 11) (Value.int .i64 1)) (fun v152 w => @Eq (List Nat) [] [] ∧ next1 (upd (upd (upd (upd (upd (upd (upd (upd (upd (upd (upd (upd (upd (upd (upd (upd (upd (upd (upd (upd e8 135 (e8 0)) 136 (e8 10)) 137 (e8 0)) 138 (e8 11)) 139 (e8 0)) 140 (e8 11)) 141 v141) 142 v142) 143 (e8 0)) 144 (e8 10)) 145 v145) 146 v146) 147 v147) 148 v148) 149 (e8 10)) 150 v150) 10 v150) 151 (e8 11)) 152 v152) 11 v152) w) w) w) w)) w)))))) w) w

def F87_p3 (P : Program) (j6 : Env → World → Prop) (e9 : Env) (next2 : Env → World → Prop) (w : World) : Prop :=
  JoinC P (fun e10 w => Do P (binOp .sub 3 (e10 11) (Value.int .i64 1)) (fun v131 w => @Eq (List Nat) [] [] ∧ next2 (upd (upd (upd e10 130 (e10 11)) 131 v131) 11 v131) w) w) (fun j8 => Drew (fun w => Draw (fun S5 w => RdS P (S5 0) (binOp .leq 3 (e9 10) (e9 11)) (fun v117 => Join (fun e11 w => RdNowN P (pickS (e11 118) (e11 128) (Value.bool false)) w (fun v129 => Cond v129 (@Eq (List Nat) [] [] ∧ j8 (upd e11 129 v129) w) (@Eq (List Nat) [] [] ∧ j6 (upd e11 129 v129) w))) (fun k1 => Guard v117 true (RdS P (S5 0) (Instr.indexAt 65 (e9 0) (e9 11)) (fun v121 => RdNow P (Instr.loadAt 3 v121) w (fun v122 => RdS P (S5 0) (Instr.indexAt 65 (e9 0) (e9 1)) (fun v125 => RdNow P (Instr.loadAt 3 v125) w (fun v126 => CallN P (callS (fnv 85) #[v122, v126]) (fun v127 w => (S5 0) w ∧ (RdNow P (Op.unary .not v127) w (fun v128 => k1 (upd (upd (upd (upd (upd (upd (upd (upd (upd (upd (upd (upd (upd (upd e9 115 (e9 10)) 116 (e9 11)) 117 v117) 118 v117) 119 (e9 0)) 120 (e9 11)) 121 v121) 122 v122) 123 (e9 0)) 124 (e9 1)) 125 v125) 126 v126) 127 v127) 128 v128) w))) w))))) (k1 (upd (upd (upd (upd (upd (upd (upd (upd (upd (upd (upd (upd (upd (upd e9 115 (e9 10)) 116 (e9 11)) 117 v117) 118 v117) 119 undef) 120 undef) 121 undef) 122 undef) 123 undef) 124 undef) 125 undef) 126 undef) 127 undef) 128 undef) w)))) w) w)

def F87_p4 (P : Program) (j5 : Env → World → Prop) (e12 : Env) (next3 : Env → World → Prop) (w : World) : Prop :=
  JoinC P (fun e13 w => Do P (binOp .add 3 (e13 10) (Value.int .i64 1)) (fun v114 w => @Eq (List Nat) [] [] ∧ next3 (upd (upd (upd e13 113 (e13 10)) 114 v114) 10 v114) w) w) (fun j9 => Drew (fun w => Draw (fun S6 w => RdS P (S6 0) (binOp .leq 3 (e12 10) (e12 11)) (fun v101 => Join (fun e14 w => RdNowN P (pickS (e14 102) (e14 111) (Value.bool false)) w (fun v112 => Cond v112 (@Eq (List Nat) [] [] ∧ j9 (upd e14 112 v112) w) (@Eq (List Nat) [] [] ∧ j5 (upd e14 112 v112) w))) (fun k2 => Guard v101 true (RdS P (S6 0) (Instr.indexAt 65 (e12 0) (e12 10)) (fun v105 => RdNow P (Instr.loadAt 3 v105) w (fun v106 => RdS P (S6 0) (Instr.indexAt 65 (e12 0) (e12 1)) (fun v109 => RdNow P (Instr.loadAt 3 v109) w (fun v110 => CallN P (callS (fnv 85) #[v106, v110]) (fun v111 w => (S6 0) w ∧ (k2 (upd (upd (upd (upd (upd (upd (upd (upd (upd (upd (upd (upd (upd e12 99 (e12 10)) 100 (e12 11)) 101 v101) 102 v101) 103 (e12 0)) 104 (e12 10)) 105 v105) 106 v106) 107 (e12 0)) 108 (e12 1)) 109 v109) 110 v110) 111 v111) w)) w))))) (k2 (upd (upd (upd (upd (upd (upd (upd (upd (upd (upd (upd (upd (upd e12 99 (e12 10)) 100 (e12 11)) 101 v101) 102 v101) 103 undef) 104 undef) 105 undef) 106 undef) 107 undef) 108 undef) 109 undef) 110 undef) 111 undef) w)))) w) w)

def F87_p5 (P : Program) (j4 : Env → World → Prop) (e5 : Env) (next1 : Env → World → Prop) (w : World) : Prop :=
  JoinC P (fun e6 w => JoinC P (fun e7 w => JoinC P (F87_p2 P next1) (fun j7 => Do P (binOp .gtr 3 (e7 10) (e7 11)) (fun v134 w => Cond v134 (@Eq (List Nat) [] [] ∧ j4 (upd (upd (upd e7 132 (e7 10)) 133 (e7 11)) 134 v134) w) (@Eq (List Nat) [] [] ∧ j7 (upd (upd (upd e7 132 (e7 10)) 133 (e7 11)) 134 v134) w)) w)) (fun j6 => Loop [115, 116, 117, 118, 119, 120, 121, 122, 123, 124, 125, 126, 127, 128, 129, 130, 131, 11] e6 w (F87_p3 P j6))) (fun j5 => Loop [99, 100, 101, 102, 103, 104, 105, 106, 107, 108, 109, 110, 111, 112, 113, 114, 10] e5 w (F87_p4 P j5))

def F87_p6 (P : Program) (K : Value → World → Prop) (e3 : Env) (w : World) : Prop :=
  Drew (fun w => Draw (fun S2 w => RdNow P (Instr.indexAt 65 (e3 0) (e3 11)) w (fun v87 => RdNow P (Instr.loadAt 3 v87) w (fun v88 => RdS P (S2 0) (Instr.indexAt 65 (e3 0) (e3 10)) (fun v91 => RdNow P (Instr.loadAt 3 v91) w (fun v92 => RdNow P (Instr.indexAt 65 (e3 0) (e3 10)) w (fun v93 => Do P (Instr.storeAt 3 v93 v88) (fun _ w => RdNow P (Instr.indexAt 65 (e3 0) (e3 11)) w (fun v94 => Do P (Instr.storeAt 3 v94 v92) (fun _ w => Do P (binOp .add 3 (e3 10) (Value.int .i64 1)) (fun v96 w => Do P (binOp .sub 3 (e3 11) (Value.int .i64 1)) (fun v98 w => JoinC P (F87_p1 P K) (fun j4 => Loop [99, 100, 101, 102, 103, 104, 105, 106, 107, 108, 109, 110, 111, 112, 113, 114, 10, 115, 116, 117, 118, 119, 120, 121, 122, 123, 124, 125, 126, 127, 128, 129, 130, 131, 11, 132, 133, 134, 135, 136, 137, 138, 139, 140, 141, 142, 143, 144, 145, 146, 147, 148, 149, 150, 151, 152] (upd (upd (upd (upd (upd (upd (upd (upd (upd (upd (upd (upd (upd (upd (upd (upd (upd (upd (upd (upd e3 81 (e3 0)) 82 (e3 10)) 83 (e3 0)) 84 (e3 11)) 85 (e3 0)) 86 (e3 11)) 87 v87) 88 v88) 89 (e3 0)) 90 (e3 10)) 91 v91) 92 v92) 93 v93) 94 v94) 95 (e3 10)) 96 v96) 10 v96) 97 (e3 11)) 98 v98) 11 v98) w (F87_p5 P j4))) w) w) w)) w)))))) w) w

def F87_p7 (P : Program) (K : Value → World → Prop) (e2 : Env) (w : World) : Prop :=
  JoinC P (F87_p6 P K) (fun j3 => Do P (binOp .gtr 3 (e2 10) (e2 11)) (fun v65 w => Cond v65 (Drew (fun w => Draw (fun S7 w => RdNow P (Instr.indexAt 65 (e2 0) (e2 1)) w (fun v72 => RdNow P (Instr.loadAt 3 v72) w (fun v73 => RdS P (S7 0) (Instr.indexAt 65 (e2 0) (e2 11)) (fun v76 => RdNow P (Instr.loadAt 3 v76) w (fun v77 => RdNow P (Instr.indexAt 65 (e2 0) (e2 11)) w (fun v78 => Do P (Instr.storeAt 3 v78 v73) (fun _ w => RdNow P (Instr.indexAt 65 (e2 0) (e2 1)) w (fun v79 => Do P (Instr.storeAt 3 v79 v77) (fun _ w => K (Value.tuple #[(e2 11), (Value.bool true)]) w) w)) w)))))) w) w) (@Eq (List Nat) [] [] ∧ j3 (upd (upd (upd e2 63 (e2 10)) 64 (e2 11)) 65 v65) w)) w)

def F87_p8 (P : Program) (j2 : Env → World → Prop) (e15 : Env) (next4 : Env → World → Prop) (w : World) : Prop :=
  JoinC P (fun e16 w => Do P (binOp .sub 3 (e16 11) (Value.int .i64 1)) (fun v62 w => @Eq (List Nat) [] [] ∧ next4 (upd (upd (upd e16 61 (e16 11)) 62 v62) 11 v62) w) w) (fun j10 => Drew (fun w => Draw (fun S8 w => RdS P (S8 0) (binOp .leq 3 (e15 10) (e15 11)) (fun v48 => Join (fun e17 w => RdNowN P (pickS (e17 49) (e17 59) (Value.bool false)) w (fun v60 => Cond v60 (@Eq (List Nat) [] [] ∧ j10 (upd e17 60 v60) w) (@Eq (List Nat) [] [] ∧ j2 (upd e17 60 v60) w))) (fun k3 => Guard v48 true (RdS P (S8 0) (Instr.indexAt 65 (e15 0) (e15 11)) (fun v52 => RdNow P (Instr.loadAt 3 v52) w (fun v53 => RdS P (S8 0) (Instr.indexAt 65 (e15 0) (e15 1)) (fun v56 => RdNow P (Instr.loadAt 3 v56) w (fun v57 => CallN P (callS (fnv 85) #[v53, v57]) (fun v58 w => (S8 0) w ∧ (RdNow P (Op.unary .not v58) w (fun v59 => k3 (upd (upd (upd (upd (upd (upd (upd (upd (upd (upd (upd (upd (upd (upd e15 46 (e15 10)) 47 (e15 11)) 48 v48) 49 v48) 50 (e15 0)) 51 (e15 11)) 52 v52) 53 v53) 54 (e15 0)) 55 (e15 1)) 56 v56) 57 v57) 58 v58) 59 v59) w))) w))))) (k3 (upd (upd (upd (upd (upd (upd (upd (upd (upd (upd (upd (upd (upd (upd e15 46 (e15 10)) 47 (e15 11)) 48 v48) 49 v48) 50 undef) 51 undef) 52 undef) 53 undef) 54 undef) 55 undef) 56 undef) 57 undef) 58 undef) 59 undef) w)))) w) w)

def F87_p9 (P : Program) (j1 : Env → World → Prop) (e18 : Env) (next5 : Env → World → Prop) (w : World) : Prop :=
  JoinC P (fun e19 w => Do P (binOp .add 3 (e19 10) (Value.int .i64 1)) (fun v45 w => @Eq (List Nat) [] [] ∧ next5 (upd (upd (upd e19 44 (e19 10)) 45 v45) 10 v45) w) w) (fun j11 => Drew (fun w => Draw (fun S9 w => RdS P (S9 0) (binOp .leq 3 (e18 10) (e18 11)) (fun v32 => Join (fun e20 w => RdNowN P (pickS (e20 33) (e20 42) (Value.bool false)) w (fun v43 => Cond v43 (@Eq (List Nat) [] [] ∧ j11 (upd e20 43 v43) w) (@Eq (List Nat) [] [] ∧ j1 (upd e20 43 v43) w))) (fun k4 => Guard v32 true (RdS P (S9 0) (Instr.indexAt 65 (e18 0) (e18 10)) (fun v36 => RdNow P (Instr.loadAt 3 v36) w (fun v37 => RdS P (S9 0) (Instr.indexAt 65 (e18 0) (e18 1)) (fun v40 => RdNow P (Instr.loadAt 3 v40) w (fun v41 => CallN P (callS (fnv 85) #[v37, v41]) (fun v42 w => (S9 0) w ∧ (k4 (upd (upd (upd (upd (upd (upd (upd (upd (upd (upd (upd (upd (upd e18 30 (e18 10)) 31 (e18 11)) 32 v32) 33 v32) 34 (e18 0)) 35 (e18 10)) 36 v36) 37 v37) 38 (e18 0)) 39 (e18 1)) 40 v40) 41 v41) 42 v42) w)) w))))) (k4 (upd (upd (upd (upd (upd (upd (upd (upd (upd (upd (upd (upd (upd e18 30 (e18 10)) 31 (e18 11)) 32 v32) 33 v32) 34 undef) 35 undef) 36 undef) 37 undef) 38 undef) 39 undef) 40 undef) 41 undef) 42 undef) w)))) w) w)

/-- slices.partitionOrdered[int] -/
def F87 (P : Program) (K : Value → World → Prop) (v0 v1 v2 v3 : Value) (w : World) : Prop :=
  Drew (fun w => Draw (fun S1 w => RdNow P (Instr.indexAt 65 v0 v3) w (fun v18 => RdNow P (Instr.loadAt 3 v18) w (fun v19 => RdS P (S1 0) (Instr.indexAt 65 v0 v1) (fun v22 => RdNow P (Instr.loadAt 3 v22) w (fun v23 => RdNow P (Instr.indexAt 65 v0 v1) w (fun v24 => Do P (Instr.storeAt 3 v24 v19) (fun _ w => RdNow P (Instr.indexAt 65 v0 v3) w (fun v25 => Do P (Instr.storeAt 3 v25 v23) (fun _ w => Do P (binOp .add 3 v1 (Value.int .i64 1)) (fun v27 w => Do P (binOp .sub 3 v2 (Value.int .i64 1)) (fun v29 w => JoinC P (fun e1 w => JoinC P (F87_p7 P K) (fun j2 => Loop [46, 47, 48, 49, 50, 51, 52, 53, 54, 55, 56, 57, 58, 59, 60, 61, 62, 11] e1 w (F87_p8 P j2))) (fun j1 => Loop [30, 31, 32, 33, 34, 35, 36, 37, 38, 39, 40, 41, 42, 43, 44, 45, 10] (upd (upd (upd (upd (upd (upd (upd (upd (upd (upd (upd (upd (upd (upd (upd (upd (upd (upd (upd (upd (upd (upd (env0 [v0, v1, v2, v3]) 8 (Value.int .i64 0)) 9 (Value.bool false)) 12 v0) 13 v1) 14 v0) 15 v3) 16 v0) 17 v3) 18 v18) 19 v19) 20 v0) 21 v1) 22 v22) 23 v23) 24 v24) 25 v25) 26 v1) 27 v27) 28 v2) 29 v29) 10 v27) 11 v29) w (F87_p9 P j1))) w) w) w)) w)))))) w) w

def H87 : Hints := [(1, true, false, [0, 0, 0, 0, 0, 0, 0, 0, 0, 0, 0, 0, 0, 0, 0, 0], .rd 0 true 0 (.rd 1 true 0 (.rd 2 true 0 (.rd 3 true 0 (.rd 4 true 0 (.rd 5 true 0 (.rd 6 true 0 (.rd 7 true 0 (.rd 8 true 0 (.rd 9 true 0 (.rd 10 false 0 (.rd 11 true 0 (.rd 12 true 0 (.ch 13 [] (.rd 14 true 0 (.ch 15 [] (.done))))))))))))))))), (3, true, false, [0, 0, 0, 0, 0, 0, 0, 0, 0, 0, 0, 0, 0, 0], .rd 0 true 0 (.rd 1 true 0 (.rd 2 false 0 (.rd 3 true 0 (.grp 3 true [(4, some true), (5, some true), (6, some false), (7, some true), (8, some true), (9, some true), (10, some false), (11, some true), (12, none)] (.rd 13 true 0 (.done))))))), (5, true, false, [0, 0, 0, 0, 0, 0, 0, 0, 0, 0, 0, 0, 0, 0, 0], .rd 0 true 0 (.rd 1 true 0 (.rd 2 false 0 (.rd 3 true 0 (.grp 3 true [(4, some true), (5, some true), (6, some false), (7, some true), (8, some true), (9, some true), (10, some false), (11, some true), (12, none), (13, some true)] (.rd 14 true 0 (.done))))))), (8, true, false, [0, 0, 0, 0, 0, 0, 0, 0, 0, 0, 0, 0, 0, 0, 0, 0], .rd 0 true 0 (.rd 1 true 0 (.rd 2 true 0 (.rd 3 true 0 (.rd 4 true 0 (.rd 5 true 0 (.rd 6 true 0 (.rd 7 true 0 (.rd 8 true 0 (.rd 9 true 0 (.rd 10 false 0 (.rd 11 true 0 (.rd 12 true 0 (.ch 13 [] (.rd 14 true 0 (.ch 15 [] (.done))))))))))))))))), (10, true, false, [0, 0, 0, 0, 0, 0, 0, 0, 0, 0, 0, 0, 0, 0, 0, 0], .rd 0 true 0 (.rd 1 true 0 (.rd 2 true 0 (.rd 3 true 0 (.rd 4 true 0 (.rd 5 true 0 (.rd 6 true 0 (.rd 7 true 0 (.rd 8 true 0 (.rd 9 true 0 (.rd 10 false 0 (.rd 11 true 0 (.rd 12 true 0 (.ch 13 [] (.rd 14 true 0 (.ch 15 [] (.done))))))))))))))))), (13, true, false, [0, 0, 0, 0, 0, 0, 0, 0, 0, 0, 0, 0, 0, 0], .rd 0 true 0 (.rd 1 true 0 (.rd 2 false 0 (.rd 3 true 0 (.grp 3 true [(4, some true), (5, some true), (6, some false), (7, some true), (8, some true), (9, some true), (10, some false), (11, some true), (12, none)] (.rd 13 true 0 (.done))))))), (15, true, false, [0, 0, 0, 0, 0, 0, 0, 0, 0, 0, 0, 0, 0, 0, 0], .rd 0 true 0 (.rd 1 true 0 (.rd 2 false 0 (.rd 3 true 0 (.grp 3 true [(4, some true), (5, some true), (6, some false), (7, some true), (8, some true), (9, some true), (10, some false), (11, some true), (12, none), (13, some true)] (.rd 14 true 0 (.done))))))), (18, true, false, [0, 0, 0, 0, 0, 0, 0, 0, 0, 0, 0, 0, 0, 0, 0, 0], .rd 0 true 0 (.rd 1 true 0 (.rd 2 true 0 (.rd 3 true 0 (.rd 4 true 0 (.rd 5 true 0 (.rd 6 true 0 (.rd 7 true 0 (.rd 8 true 0 (.rd 9 true 0 (.rd 10 false 0 (.rd 11 true 0 (.rd 12 true 0 (.ch 13 [] (.rd 14 true 0 (.ch 15 [] (.done))))))))))))))))), (21, true, false, [0, 0, 0, 0, 0, 0, 0, 0, 0, 0, 0, 0, 0, 0, 0, 0], .rd 0 true 0 (.rd 1 true 0 (.rd 2 true 0 (.rd 3 true 0 (.rd 4 true 0 (.rd 5 true 0 (.rd 6 true 0 (.rd 7 true 0 (.rd 8 true 0 (.rd 9 true 0 (.rd 10 false 0 (.rd 11 true 0 (.rd 12 true 0 (.ch 13 [] (.rd 14 true 0 (.ch 15 [] (.done)))))))))))))))))]

theorem F87_eq (K : Value → World → Prop) (v0 v1 v2 v3 : Value) (w : World) : F87 Tryd.prog K v0 v1 v2 v3 w = pt Tryd.prog H87 none Tryd.f87.ntmps (bodyOf Tryd.f87) (RetQ Tryd.prog Tryd.f87.results K) (env0 [v0, v1, v2, v3]) [] w := by kernel_rfl

theorem F87_ok : codeOk cvTryd H87 (bodyOf Tryd.f87) = true := by kernel_rfl

theorem F87_has : Tryd.f87.body.isSome = true ∧ Nat.ble 4 Tryd.f87.ntmps = true := ⟨by kernel_rfl, by kernel_rfl⟩

theorem F87_calls {K : Value → World → Prop} {v0 v1 v2 v3 : Value} {w : World} (h : F87 Tryd.prog K v0 v1 v2 v3 w) : Calls Tryd.prog 87 #[v0, v1, v2, v3] w (Returns K) :=
  calls_of_eq (cv := cvTryd) (H := H87) (fn := Tryd.f87) (args := [v0, v1, v2, v3]) mixedTryd Tryd.func87 F87_has F87_ok (F87_eq K v0 v1 v2 v3 w) h

def F90_p1 (P : Program) (K : Value → World → Prop) (e1 : Env) (w : World) : Prop :=
  JoinC P (fun e2 w => K (e2 0) w) (fun j2 => CallN P (builtin .cap #[22] 3 #[false] #[(e1 0)]) (fun v10 w => CallN P (builtin .len #[22] 3 #[false] #[(e1 0)]) (fun v12 w => Do P (binOp .sub 3 v10 v12) (fun v13 w => Do P (binOp .sub 3 (e1 1) v13) (fun v14 w => Do P (binOp .gtr 3 v14 (Value.int .i64 0)) (fun v16 w => Cond v16 (CallN P (builtin .cap #[22] 3 #[false] #[(e1 0)]) (fun v19 w => Do P (Instr.sliceAt 22 (e1 0) none (some v19) none) (fun v20 w => CallN P (builtin .append #[22, 3] 22 #[false, false] #[v20, v14]) (fun v22 w => CallN P (builtin .len #[22] 3 #[false] #[(e1 0)]) (fun v24 w => Do P (Instr.sliceAt 22 v22 none (some v24) none) (fun v25 w => @Eq (List Nat) [] [] ∧ j2 (upd (upd (upd (upd (upd (upd (upd (upd (upd (upd (upd (upd (upd (upd (upd (upd (upd (upd (upd (upd e1 8 (e1 1)) 9 (e1 0)) 10 v10) 11 (e1 0)) 12 v12) 13 v13) 14 v14) 1 v14) 15 v14) 16 v16) 17 (e1 0)) 18 (e1 0)) 19 v19) 20 v20) 21 v14) 22 v22) 23 (e1 0)) 24 v24) 25 v25) 0 v25) w) w) w) w) w) w) (@Eq (List Nat) [] [] ∧ j2 (upd (upd (upd (upd (upd (upd (upd (upd (upd (upd e1 8 (e1 1)) 9 (e1 0)) 10 v10) 11 (e1 0)) 12 v12) 13 v13) 14 v14) 1 v14) 15 v14) 16 v16) w)) w) w) w) w) w)

/-- slices.Grow[[]byte,byte] -/
def F90 (P : Program) (K : Value → World → Prop) (v0 v1 : Value) (w : World) : Prop :=
  JoinC P (F90_p1 P K) (fun j1 => Do P (binOp .lss 3 v1 (Value.int .i64 0)) (fun v6 w => Cond v6 (Do P (Instr.makeInterface 9 (Value.string ⟨#[99, 97, 110, 110, 111, 116, 32, 98, 101, 32, 110, 101, 103, 97, 116, 105, 118, 101]⟩)) (fun _ w => False) w) (@Eq (List Nat) [] [] ∧ j1 (upd (upd (upd (env0 [v0, v1]) 4 (Value.slice none 0 0)) 5 v1) 6 v6) w)) w)

def H90 : Hints := []

theorem F90_eq (K : Value → World → Prop) (v0 v1 : Value) (w : World) : F90 Tryd.prog K v0 v1 w = pt Tryd.prog H90 none Tryd.f90.ntmps (bodyOf Tryd.f90) (RetQ Tryd.prog Tryd.f90.results K) (env0 [v0, v1]) [] w := by kernel_rfl

theorem F90_ok : codeOk cvTryd H90 (bodyOf Tryd.f90) = true := by kernel_rfl

theorem F90_has : Tryd.f90.body.isSome = true ∧ Nat.ble 2 Tryd.f90.ntmps = true := ⟨by kernel_rfl, by kernel_rfl⟩

theorem F90_calls {K : Value → World → Prop} {v0 v1 : Value} {w : World} (h : F90 Tryd.prog K v0 v1 w) : Calls Tryd.prog 90 #[v0, v1] w (Returns K) :=
  calls_of_eq (cv := cvTryd) (H := H90) (fn := Tryd.f90) (args := [v0, v1]) mixedTryd Tryd.func90 F90_has F90_ok (F90_eq K v0 v1 w) h

/-- bailee/digest.turn -/
def F91 (P : Program) (K : Value → World → Prop) (v0 v1 : Value) (w : World) : Prop :=
  Do P (Op.unary .neg v1) (fun v7 w => CallN P (callS (fnv 98) #[v0, v7]) (fun v8 w => K v8 w) w) w

def H91 : Hints := []

theorem F91_eq (K : Value → World → Prop) (v0 v1 : Value) (w : World) : F91 Tryd.prog K v0 v1 w = pt Tryd.prog H91 none Tryd.f91.ntmps (bodyOf Tryd.f91) (RetQ Tryd.prog Tryd.f91.results K) (env0 [v0, v1]) [] w := by kernel_rfl

theorem F91_ok : codeOk cvTryd H91 (bodyOf Tryd.f91) = true := by kernel_rfl

theorem F91_has : Tryd.f91.body.isSome = true ∧ Nat.ble 2 Tryd.f91.ntmps = true := ⟨by kernel_rfl, by kernel_rfl⟩

theorem F91_calls {K : Value → World → Prop} {v0 v1 : Value} {w : World} (h : F91 Tryd.prog K v0 v1 w) : Calls Tryd.prog 91 #[v0, v1] w (Returns K) :=
  calls_of_eq (cv := cvTryd) (H := H91) (fn := Tryd.f91) (args := [v0, v1]) mixedTryd Tryd.func91 F91_has F91_ok (F91_eq K v0 v1 w) h

def F92_p1 (P : Program) (next1 : Env → World → Prop) (e4 : Env) (w : World) : Prop :=
  Drew (fun w => Draw (fun S1 w => RdNow P (binOp .add 3 (e4 3) (e4 8)) w (fun v56 => RdS P (S1 1) (binOp .add 3 (e4 3) (e4 9)) (fun v60 => RdNow P (binOp .add 3 (e4 3) (e4 9)) w (fun v64 => RdNow P (Instr.indexAt 65 (e4 0) v64) w (fun v65 => RdNow P (Instr.loadAt 3 v65) w (fun v66 => RdS P (S1 0) (binOp .add 3 (e4 3) (e4 8)) (fun v70 => RdS P (S1 0) (Instr.indexAt 65 (e4 0) v70) (fun v71 => RdNow P (Instr.loadAt 3 v71) w (fun v72 => RdNow P (Instr.indexAt 65 (e4 0) v56) w (fun v73 => Do P (Instr.storeAt 3 v73 v66) (fun _ w => S1 1 w ∧ (RdNow P (Instr.indexAt 65 (e4 0) v60) w (fun v74 => Do P (Instr.storeAt 3 v74 v72) (fun _ w => @Eq (List Nat) [] [] ∧ next1 (upd (upd (upd (upd (upd (upd (upd (upd (upd (upd (upd (upd (upd (upd (upd (upd (upd (upd (upd (upd (upd (upd (upd (upd e4 53 (e4 0)) 54 (e4 3)) 55 (e4 8)) 56 v56) 57 (e4 0)) 58 (e4 3)) 59 (e4 9)) 60 v60) 61 (e4 0)) 62 (e4 3)) 63 (e4 9)) 64 v64) 65 v65) 66 v66) 67 (e4 0)) 68 (e4 3)) 69 (e4 8)) 70 v70) 71 v71) 72 v72) 73 v73) 74 v74) 75 (e4 9)) 8 (e4 9)) w) w))) w)))))))))) w) w

def F92_p2 (P : Program) (next1 : Env → World → Prop) (K : Value → World → Prop) (e3 : Env) (w : World) : Prop :=
  JoinC P (F92_p1 P next1) (fun j3 => Drew (fun w => Draw (fun S2 w => RdS P (S2 0) (binOp .add 3 (e3 3) (e3 8)) (fun v42 => RdS P (S2 0) (Instr.indexAt 65 (e3 0) v42) (fun v43 => RdNow P (Instr.loadAt 3 v43) w (fun v44 => RdS P (S2 0) (binOp .add 3 (e3 3) (e3 9)) (fun v48 => RdS P (S2 0) (Instr.indexAt 65 (e3 0) v48) (fun v49 => RdNow P (Instr.loadAt 3 v49) w (fun v50 => CallN P (callS (fnv 85) #[v44, v50]) (fun v51 w => RdNow P (Op.unary .not v51) w (fun v52 => Cond v52 (K (Value.tuple #[]) w) (@Eq (List Nat) [] [] ∧ j3 (upd (upd (upd (upd (upd (upd (upd (upd (upd (upd (upd (upd (upd (upd e3 39 (e3 0)) 40 (e3 3)) 41 (e3 8)) 42 v42) 43 v43) 44 v44) 45 (e3 0)) 46 (e3 3)) 47 (e3 9)) 48 v48) 49 v49) 50 v50) 51 v51) 52 v52) w))) w))))))) w) w)

def F92_p3 (P : Program) (next1 : Env → World → Prop) (K : Value → World → Prop) (e2 : Env) (w : World) : Prop :=
  JoinC P (F92_p2 P next1 K) (fun j2 => Drew (fun w => Draw (fun S3 w => RdS P (S3 0) (binOp .add 3 (e2 9) (Value.int .i64 1)) (fun v18 => RdS P (S3 0) (binOp .lss 3 v18 (e2 2)) (fun v20 => Join (fun e5 w => RdNowN P (pickS (e5 21) (e5 35) (Value.bool false)) w (fun v36 => Cond v36 (Do P (binOp .add 3 (e5 9) (Value.int .i64 1)) (fun v38 w => @Eq (List Nat) [] [] ∧ j2 (upd (upd (upd (upd e5 36 v36) 37 (e5 9)) 38 v38) 9 v38) w) w) (@Eq (List Nat) [] [] ∧ j2 (upd e5 36 v36) w))) (fun k1 => Guard v20 true (RdS P (S3 0) (binOp .add 3 (e2 3) (e2 9)) (fun v25 => RdS P (S3 0) (Instr.indexAt 65 (e2 0) v25) (fun v26 => RdNow P (Instr.loadAt 3 v26) w (fun v27 => RdS P (S3 0) (binOp .add 3 (e2 3) (e2 9)) (fun v31 => RdS P (S3 0) (binOp .add 3 v31 (Value.int .i64 1)) (fun v32 => RdS P (S3 0) (Instr.indexAt 65 (e2 0) v32) (fun v33 => RdNow P (Instr.loadAt 3 v33) w (fun v34 => CallN P (callS (fnv 85) #[v27, v34]) (fun v35 w => (S3 0) w ∧ (k1 (upd (upd (upd (upd (upd (upd (upd (upd (upd (upd (upd (upd (upd (upd (upd (upd (upd (upd (upd e2 17 (e2 9)) 18 v18) 19 (e2 2)) 20 v20) 21 v20) 22 (e2 0)) 23 (e2 3)) 24 (e2 9)) 25 v25) 26 v26) 27 v27) 28 (e2 0)) 29 (e2 3)) 30 (e2 9)) 31 v31) 32 v32) 33 v33) 34 v34) 35 v35) w)) w)))))))) (k1 (upd (upd (upd (upd (upd (upd (upd (upd (upd (upd (upd (upd (upd (upd (upd (upd (upd (upd (upd e2 17 (e2 9)) 18 v18) 19 (e2 2)) 20 v20) 21 v20) 22 undef) 23 undef) 24 undef) 25 undef) 26 undef) 27 undef) 28 undef) 29 undef) 30 undef) 31 undef) 32 undef) 33 undef) 34 undef) 35 undef) w))))) w) w)

/-- slices.siftDownOrdered[int] -/
def F92 (P : Program) (K : Value → World → Prop) (v0 v1 v2 v3 : Value) (w : World) : Prop :=
  Loop [11, 12, 13, 9, 14, 15, 16, 17, 18, 19, 20, 21, 22, 23, 24, 25, 26, 27, 28, 29, 30, 31, 32, 33, 34, 35, 36, 37, 38, 39, 40, 41, 42, 43, 44, 45, 46, 47, 48, 49, 50, 51, 52, 53, 54, 55, 56, 57, 58, 59, 60, 61, 62, 63, 64, 65, 66, 67, 68, 69, 70, 71, 72, 73, 74, 75, 8] (upd (upd (env0 [v0, v1, v2, v3]) 10 v1) 8 v1) w (fun e1 next1 w => Do P (binOp .mul 3 (Value.int .i64 2) (e1 8)) (fun v12 w => Do P (binOp .add 3 v12 (Value.int .i64 1)) (fun v13 w => JoinC P (F92_p3 P next1 K) (fun j1 => Do P (binOp .geq 3 v13 (e1 2)) (fun v16 w => Cond v16 (K (Value.tuple #[]) w) (@Eq (List Nat) [] [] ∧ j1 (upd (upd (upd (upd (upd (upd (upd e1 11 (e1 8)) 12 v12) 13 v13) 9 v13) 14 v13) 15 (e1 2)) 16 v16) w)) w)) w) w)

def H92 : Hints := [(3, true, false, [0, 0, 0, 0, 0, 0, 0, 0, 0, 0, 0, 0, 0, 0, 0, 0, 0, 0, 0, 0], .rd 0 true 0 (.rd 1 false 0 (.rd 2 true 0 (.rd 3 false 0 (.rd 4 true 0 (.grp 4 true [(5, some true), (6, some true), (7, some true), (8, some false), (9, some false), (10, some true), (11, some true), (12, some true), (13, some true), (14, some false), (15, some false), (16, some false), (17, some true), (18, none)] (.rd 19 true 0 (.done)))))))), (5, true, false, [0, 0, 0, 0, 0, 0, 0, 0, 0, 0, 0, 0, 0, 0], .rd 0 true 0 (.rd 1 true 0 (.rd 2 true 0 (.rd 3 false 0 (.rd 4 false 0 (.rd 5 true 0 (.rd 6 true 0 (.rd 7 true 0 (.rd 8 true 0 (.rd 9 false 0 (.rd 10 false 0 (.rd 11 true 0 (.ch 12 [] (.rd 13 true 0 (.done))))))))))))))), (6, true, false, [0, 0, 0, 0, 0, 0, 0, 1, 0, 0, 0, 0, 0, 0, 0, 0, 0, 0, 0, 0, 0, 0, 0, 0], .rd 0 true 0 (.rd 1 true 0 (.rd 2 true 0 (.rd 3 true 0 (.rd 4 true 0 (.rd 5 true 0 (.rd 6 true 0 (.rd 7 false 1 (.rd 8 true 0 (.rd 9 true 0 (.rd 10 true 0 (.rd 11 true 0 (.rd 12 true 0 (.rd 13 true 0 (.rd 14 true 0 (.rd 15 true 0 (.rd 16 true 0 (.rd 17 false 0 (.rd 18 false 0 (.rd 19 true 0 (.rd 20 true 0 (.ch 21 [1] (.rd 22 true 0 (.ch 23 [] (.done)))))))))))))))))))))))))]

theorem F92_eq (K : Value → World → Prop) (v0 v1 v2 v3 : Value) (w : World) : F92 Tryd.prog K v0 v1 v2 v3 w = pt Tryd.prog H92 none Tryd.f92.ntmps (bodyOf Tryd.f92) (RetQ Tryd.prog Tryd.f92.results K) (env0 [v0, v1, v2, v3]) [] w := by kernel_rfl

theorem F92_ok : codeOk cvTryd H92 (bodyOf Tryd.f92) = true := by kernel_rfl

theorem F92_has : Tryd.f92.body.isSome = true ∧ Nat.ble 4 Tryd.f92.ntmps = true := ⟨by kernel_rfl, by kernel_rfl⟩

theorem F92_calls {K : Value → World → Prop} {v0 v1 v2 v3 : Value} {w : World} (h : F92 Tryd.prog K v0 v1 v2 v3 w) : Calls Tryd.prog 92 #[v0, v1, v2, v3] w (Returns K) :=
  calls_of_eq (cv := cvTryd) (H := H92) (fn := Tryd.f92) (args := [v0, v1, v2, v3]) mixedTryd Tryd.func92 F92_has F92_ok (F92_eq K v0 v1 v2 v3 w) h

/-- slices.nextPowerOfTwo -/
def F93 (P : Program) (K : Value → World → Prop) (v0 : Value) (w : World) : Prop :=
  Do P (convert 3 143 v0) (fun v4 w => CallN P (callS (fnv 71) #[v4]) (fun v5 w => Do P (binOp .shl 143 (Value.int .u64 1) v5) (fun v6 w => K v6 w) w) w) w

def H93 : Hints := []

theorem F93_eq (K : Value → World → Prop) (v0 : Value) (w : World) : F93 Tryd.prog K v0 w = pt Tryd.prog H93 none Tryd.f93.ntmps (bodyOf Tryd.f93) (RetQ Tryd.prog Tryd.f93.results K) (env0 [v0]) [] w := by kernel_rfl

theorem F93_ok : codeOk cvTryd H93 (bodyOf Tryd.f93) = true := by kernel_rfl

theorem F93_has : Tryd.f93.body.isSome = true ∧ Nat.ble 1 Tryd.f93.ntmps = true := ⟨by kernel_rfl, by kernel_rfl⟩

theorem F93_calls {K : Value → World → Prop} {v0 : Value} {w : World} (h : F93 Tryd.prog K v0 w) : Calls Tryd.prog 93 #[v0] w (Returns K) :=
  calls_of_eq (cv := cvTryd) (H := H93) (fn := Tryd.f93) (args := [v0]) mixedTryd Tryd.func93 F93_has F93_ok (F93_eq K v0 w) h

/-- (*slices.xorshift).Next -/
def F94 (P : Program) (K : Value → World → Prop) (v0 : Value) (w : World) : Prop :=
  Drew (fun w => RdNowN P (nilS v0) w (fun v4 => RdNow P (Instr.loadAt 166 v4) w (fun v5 => RdNowN P (nilS v0) w (fun v7 => RdNow P (Instr.loadAt 166 v7) w (fun v8 => RdNow P (binOp .shl 166 v8 (Value.int .u64 13)) w (fun v9 => RdNow P (binOp .xor 166 v5 v9) w (fun v10 => RdNowN P (nilS v0) w (fun v11 => Do P (Instr.storeAt 166 v11 v10) (fun _ w => Drew (fun w => RdNowN P (nilS v0) w (fun v13 => RdNow P (Instr.loadAt 166 v13) w (fun v14 => RdNowN P (nilS v0) w (fun v16 => RdNow P (Instr.loadAt 166 v16) w (fun v17 => RdNow P (binOp .shr 166 v17 (Value.int .u64 7)) w (fun v18 => RdNow P (binOp .xor 166 v14 v18) w (fun v19 => RdNowN P (nilS v0) w (fun v20 => Do P (Instr.storeAt 166 v20 v19) (fun _ w => Drew (fun w => RdNowN P (nilS v0) w (fun v22 => RdNow P (Instr.loadAt 166 v22) w (fun v23 => RdNowN P (nilS v0) w (fun v25 => RdNow P (Instr.loadAt 166 v25) w (fun v26 => RdNow P (binOp .shl 166 v26 (Value.int .u64 17)) w (fun v27 => RdNow P (binOp .xor 166 v23 v27) w (fun v28 => RdNowN P (nilS v0) w (fun v29 => Do P (Instr.storeAt 166 v29 v28) (fun _ w => CallN P (nilS v0) (fun v31 w => Do P (Instr.loadAt 166 v31) (fun v32 w => K v32 w) w) w) w)))))))) w) w)))))))) w) w)))))))) w

def H94 : Hints := [(1, false, false, [], .rd 0 true 0 (.rd 1 true 0 (.rd 2 true 0 (.rd 3 true 0 (.rd 4 true 0 (.rd 5 true 0 (.rd 6 true 0 (.rd 7 true 0 (.rd 8 true 0 (.ch 9 [] (.done))))))))))), (2, false, false, [], .rd 0 true 0 (.rd 1 true 0 (.rd 2 true 0 (.rd 3 true 0 (.rd 4 true 0 (.rd 5 true 0 (.rd 6 true 0 (.rd 7 true 0 (.rd 8 true 0 (.ch 9 [] (.done))))))))))), (3, false, false, [], .rd 0 true 0 (.rd 1 true 0 (.rd 2 true 0 (.rd 3 true 0 (.rd 4 true 0 (.rd 5 true 0 (.rd 6 true 0 (.rd 7 true 0 (.rd 8 true 0 (.ch 9 [] (.done)))))))))))]

theorem F94_eq (K : Value → World → Prop) (v0 : Value) (w : World) : F94 Tryd.prog K v0 w = pt Tryd.prog H94 none Tryd.f94.ntmps (bodyOf Tryd.f94) (RetQ Tryd.prog Tryd.f94.results K) (env0 [v0]) [] w := by kernel_rfl

theorem F94_ok : codeOk cvTryd H94 (bodyOf Tryd.f94) = true := by kernel_rfl

theorem F94_has : Tryd.f94.body.isSome = true ∧ Nat.ble 1 Tryd.f94.ntmps = true := ⟨by kernel_rfl, by kernel_rfl⟩

theorem F94_calls {K : Value → World → Prop} {v0 : Value} {w : World} (h : F94 Tryd.prog K v0 w) : Calls Tryd.prog 94 #[v0] w (Returns K) :=
  calls_of_eq (cv := cvTryd) (H := H94) (fn := Tryd.f94) (args := [v0]) mixedTryd Tryd.func94 F94_has F94_ok (F94_eq K v0 w) h

/-- slices.medianAdjacentOrdered[int] -/
def F95 (P : Program) (K : Value → World → Prop) (v0 v1 v2 : Value) (w : World) : Prop :=
  Do P (binOp .sub 3 v1 (Value.int .i64 1)) (fun v9 w => Do P (binOp .add 3 v1 (Value.int .i64 1)) (fun v12 w => CallN P (callS (fnv 96) #[v0, v9, v1, v12, v2]) (fun v14 w => K v14 w) w) w) w

def H95 : Hints := []

theorem F95_eq (K : Value → World → Prop) (v0 v1 v2 : Value) (w : World) : F95 Tryd.prog K v0 v1 v2 w = pt Tryd.prog H95 none Tryd.f95.ntmps (bodyOf Tryd.f95) (RetQ Tryd.prog Tryd.f95.results K) (env0 [v0, v1, v2]) [] w := by kernel_rfl

theorem F95_ok : codeOk cvTryd H95 (bodyOf Tryd.f95) = true := by kernel_rfl

theorem F95_has : Tryd.f95.body.isSome = true ∧ Nat.ble 3 Tryd.f95.ntmps = true := ⟨by kernel_rfl, by kernel_rfl⟩

theorem F95_calls {K : Value → World → Prop} {v0 v1 v2 : Value} {w : World} (h : F95 Tryd.prog K v0 v1 v2 w) : Calls Tryd.prog 95 #[v0, v1, v2] w (Returns K) :=
  calls_of_eq (cv := cvTryd) (H := H95) (fn := Tryd.f95) (args := [v0, v1, v2]) mixedTryd Tryd.func95 F95_has F95_ok (F95_eq K v0 v1 v2 w) h

/-- slices.medianOrdered[int] -/
def F96 (P : Program) (K : Value → World → Prop) (v0 v1 v2 v3 v4 : Value) (w : World) : Prop :=
  CallN P (callS (fnv 99) #[v0, v1, v2, v4]) (fun v16 w => Do P (Instr.extract v16 0) (fun v17 w => Do P (Instr.extract v16 1) (fun v18 w => CallN P (callS (fnv 99) #[v0, v18, v3, v4]) (fun v24 w => Do P (Instr.extract v24 0) (fun v25 w => Do P (Instr.extract v24 1) (fun _ w => CallN P (callS (fnv 99) #[v0, v17, v25, v4]) (fun v32 w => Do P (Instr.extract v32 0) (fun _ w => Do P (Instr.extract v32 1) (fun v34 w => K v34 w) w) w) w) w) w) w) w) w) w

def H96 : Hints := []

theorem F96_eq (K : Value → World → Prop) (v0 v1 v2 v3 v4 : Value) (w : World) : F96 Tryd.prog K v0 v1 v2 v3 v4 w = pt Tryd.prog H96 none Tryd.f96.ntmps (bodyOf Tryd.f96) (RetQ Tryd.prog Tryd.f96.results K) (env0 [v0, v1, v2, v3, v4]) [] w := by kernel_rfl

theorem F96_ok : codeOk cvTryd H96 (bodyOf Tryd.f96) = true := by kernel_rfl

theorem F96_has : Tryd.f96.body.isSome = true ∧ Nat.ble 5 Tryd.f96.ntmps = true := ⟨by kernel_rfl, by kernel_rfl⟩

theorem F96_calls {K : Value → World → Prop} {v0 v1 v2 v3 v4 : Value} {w : World} (h : F96 Tryd.prog K v0 v1 v2 v3 v4 w) : Calls Tryd.prog 96 #[v0, v1, v2, v3, v4] w (Returns K) :=
  calls_of_eq (cv := cvTryd) (H := H96) (fn := Tryd.f96) (args := [v0, v1, v2, v3, v4]) mixedTryd Tryd.func96 F96_has F96_ok (F96_eq K v0 v1 v2 v3 v4 w) h

/-- cmp.isNaN[int] -/
def F97 (P : Program) (K : Value → World → Prop) (v0 : Value) (w : World) : Prop :=
  Do P (eqS .neq 3 false false v0 v0) (fun v5 w => K v5 w) w

def H97 : Hints := []

theorem F97_eq (K : Value → World → Prop) (v0 : Value) (w : World) : F97 Tryd.prog K v0 w = pt Tryd.prog H97 none Tryd.f97.ntmps (bodyOf Tryd.f97) (RetQ Tryd.prog Tryd.f97.results K) (env0 [v0]) [] w := by kernel_rfl

theorem F97_ok : codeOk cvTryd H97 (bodyOf Tryd.f97) = true := by kernel_rfl

theorem F97_has : Tryd.f97.body.isSome = true ∧ Nat.ble 1 Tryd.f97.ntmps = true := ⟨by kernel_rfl, by kernel_rfl⟩

theorem F97_calls {K : Value → World → Prop} {v0 : Value} {w : World} (h : F97 Tryd.prog K v0 w) : Calls Tryd.prog 97 #[v0] w (Returns K) :=
  calls_of_eq (cv := cvTryd) (H := H97) (fn := Tryd.f97) (args := [v0]) mixedTryd Tryd.func97 F97_has F97_ok (F97_eq K v0 w) h

/-- math/bits.RotateLeft32 -/
def F98 (P : Program) (K : Value → World → Prop) (v0 v1 : Value) (w : World) : Prop :=
  Do P (convert 3 143 v1) (fun v7 w => Do P (binOp .and 143 v7 (Value.int .u64 31)) (fun v8 w => Do P (binOp .shl 110 v0 v8) (fun v11 w => Do P (binOp .sub 143 (Value.int .u64 32) v8) (fun v14 w => Do P (binOp .shr 110 v0 v14) (fun v15 w => Do P (binOp .or 110 v11 v15) (fun v16 w => K v16 w) w) w) w) w) w) w

def H98 : Hints := []

theorem F98_eq (K : Value → World → Prop) (v0 v1 : Value) (w : World) : F98 Tryd.prog K v0 v1 w = pt Tryd.prog H98 none Tryd.f98.ntmps (bodyOf Tryd.f98) (RetQ Tryd.prog Tryd.f98.results K) (env0 [v0, v1]) [] w := by kernel_rfl

theorem F98_ok : codeOk cvTryd H98 (bodyOf Tryd.f98) = true := by kernel_rfl

theorem F98_has : Tryd.f98.body.isSome = true ∧ Nat.ble 2 Tryd.f98.ntmps = true := ⟨by kernel_rfl, by kernel_rfl⟩

theorem F98_calls {K : Value → World → Prop} {v0 v1 : Value} {w : World} (h : F98 Tryd.prog K v0 v1 w) : Calls Tryd.prog 98 #[v0, v1] w (Returns K) :=
  calls_of_eq (cv := cvTryd) (H := H98) (fn := Tryd.f98) (args := [v0, v1]) mixedTryd Tryd.func98 F98_has F98_ok (F98_eq K v0 v1 w) h

/-- slices.order2Ordered[int] -/
def F99 (P : Program) (K : Value → World → Prop) (v0 v1 v2 v3 : Value) (w : World) : Prop :=
  JoinC P (fun e1 w => K (Value.tuple #[(e1 1), (e1 2)]) w) (fun j1 => Drew (fun w => Draw (fun S1 w => RdS P (S1 0) (Instr.indexAt 65 v0 v2) (fun v12 => RdNow P (Instr.loadAt 3 v12) w (fun v13 => RdS P (S1 0) (Instr.indexAt 65 v0 v1) (fun v16 => RdNow P (Instr.loadAt 3 v16) w (fun v17 => CallN P (callS (fnv 85) #[v13, v17]) (fun v18 w => Cond v18 (CallN P (nilS v3) (fun v20 w => Do P (Instr.loadAt 3 v20) (fun v21 w => Do P (binOp .add 3 v21 (Value.int .i64 1)) (fun v22 w => CallN P (nilS v3) (fun v23 w => Do P (Instr.storeAt 3 v23 v22) (fun _ w => K (Value.tuple #[v2, v1]) w) w) w) w) w) w) (@Eq (List Nat) [] [] ∧ j1 (upd (upd (upd (upd (upd (upd (upd (upd (upd (upd (upd (env0 [v0, v1, v2, v3]) 8 (Value.int .i64 0)) 9 (Value.int .i64 0)) 10 v0) 11 v2) 12 v12) 13 v13) 14 v0) 15 v1) 16 v16) 17 v17) 18 v18) w)) w))))) w) w)

def H99 : Hints := [(1, true, false, [0, 0, 0, 0, 0, 0, 0, 0, 0], .rd 0 true 0 (.rd 1 true 0 (.rd 2 false 0 (.rd 3 true 0 (.rd 4 true 0 (.rd 5 true 0 (.rd 6 false 0 (.rd 7 true 0 (.ch 8 [] (.done))))))))))]

theorem F99_eq (K : Value → World → Prop) (v0 v1 v2 v3 : Value) (w : World) : F99 Tryd.prog K v0 v1 v2 v3 w = pt Tryd.prog H99 none Tryd.f99.ntmps (bodyOf Tryd.f99) (RetQ Tryd.prog Tryd.f99.results K) (env0 [v0, v1, v2, v3]) [] w := by kernel_rfl

theorem F99_ok : codeOk cvTryd H99 (bodyOf Tryd.f99) = true := by kernel_rfl

theorem F99_has : Tryd.f99.body.isSome = true ∧ Nat.ble 4 Tryd.f99.ntmps = true := ⟨by kernel_rfl, by kernel_rfl⟩

theorem F99_calls {K : Value → World → Prop} {v0 v1 v2 v3 : Value} {w : World} (h : F99 Tryd.prog K v0 v1 v2 v3 w) : Calls Tryd.prog 99 #[v0, v1, v2, v3] w (Returns K) :=
  calls_of_eq (cv := cvTryd) (H := H99) (fn := Tryd.f99) (args := [v0, v1, v2, v3]) mixedTryd Tryd.func99 F99_has F99_ok (F99_eq K v0 v1 v2 v3 w) h

end Go.Px
end
section
set_option linter.unusedVariables false
set_option linter.unusedSimpArgs false

end
section
set_option linter.unusedVariables false
set_option linter.unusedSimpArgs false
set_option linter.unusedVariables false
set_option maxRecDepth 20000
namespace Go.Px
open Go Go.Proofs
attribute [local irreducible] Do RdNow RdS RdNowN RdSN CallN Drew Draw Loop JoinC obj own rows at' old Item.r
variable {K : Value → World → Prop} {L : List Item} {w : World}
def fnd {α : Type} (p : α → Bool) (xs : List α) : Int := match xs.findIdx? p with | some i => i | none => -1
theorem fnd_some {α : Type} {p : α → Bool} {xs : List α} {i : Nat} {x : α} (hx : xs[i]? = some x) (hp : p x = true) (hb : ∀ (j : Nat) (y : α), j < i → xs[j]? = some y → p y = false) : fnd p xs = i := by
  have h : xs.findIdx? p = some i := by
    rw [List.findIdx?_eq_some_iff_getElem]
    have hi := (List.getElem?_eq_some_iff.1 hx).1
    refine ⟨hi, ?_, fun j hj => ?_⟩
    · rw [(List.getElem?_eq_some_iff.1 hx).2]; exact hp
    · have hj' : j < xs.length := by omega
      rw [hb j xs[j] hj (List.getElem?_eq_getElem hj')]; simp
  unfold fnd; rw [h]
theorem fnd_none {α : Type} {p : α → Bool} {xs : List α} (hb : ∀ (j : Nat) (y : α), xs[j]? = some y → p y = false) : fnd p xs = -1 := by
  have h : xs.findIdx? p = none := by
    rw [List.findIdx?_eq_none_iff]
    intro y hy
    obtain ⟨j, hj, h⟩ := List.mem_iff_getElem.1 hy
    exact hb j y (by rw [← h]; exact List.getElem?_eq_getElem hj)
  unfold fnd; rw [h]
theorem indexFunc_question {v f : Value} {xs : List audit_question} (p : audit_question → Bool) (hs : St L w) (hx : RowIn Eaudit_question v xs L) (hn : xs.length ≤ 1000000000000)
    (hp : ∀ x w, St L w → CallN Tryd.prog (callS f #[Eaudit_question.val x]) (fun r w' => r = .bool (p x) ∧ St L w') w)
    (hk : ∀ w, St L w → K (I (fnd p xs)) w) : CallN Tryd.prog (callS (fnv 66) #[v, f]) K w := by
  refine CallN_fn (args := [v, f]) (by kernel_rfl) (F66_calls ?_)
  unfold F66
  refine JoinC_in ?_
  refine CallN_y hs (Yd.len (by assumption)) ?_
  refine Loop_in (fun e w => ∃ i : Nat, i ≤ xs.length ∧ e 8 = I i ∧ e 7 = I xs.length ∧ e 0 = v ∧ e 1 = f ∧ St L w ∧ ∀ (j : Nat) (y : _), j < i → xs[j]? = some y → p y = false) (fun e _ => xs.length - numOf (e 8)) ⟨0, by omega, rfl, rfl, rfl, rfl, hs, fun j y h => by omega⟩ ?_
  rintro e w ⟨i, hi, e8, e7, e0, e1, hs, hb⟩
  obtain ⟨e, rfl⟩ := env4 e8 e7 e0 e1
  unfold F66_p1
  refine Do_y hs (Yd.lss _ _ _ _) ?_
  refine JoinC_in ?_
  refine Cond_dec (fun h => ?_) (fun h => ?_)
  · obtain ⟨x, hxi⟩ : ∃ x, xs[i]? = some x := ⟨xs[i]'(by omega), List.getElem?_eq_getElem (by omega)⟩
    refine ⟨(rfl : @Eq (List Nat) _ _), ?_⟩
    refine JoinC_in ?_
    refine Do_idx' hs hx i x hxi fun b o g => ?_
    refine Do_y hs (Yd.ty (by assumption)) ?_
    refine CallN_mono (fun r w' hr => ?_) (hp x _ hs)
    obtain ⟨rfl, hs⟩ := hr
    refine Cond_split (fun hpx => ?_) (fun hpx => ?_)
    · have := hk _ hs
      rw [fnd_some hxi hpx hb] at this
      exact this
    · refine ⟨(rfl : @Eq (List Nat) _ _), ?_⟩
      refine Do_y hs (Yd.add _ _ _) ?_
      refine ⟨(rfl : @Eq (List Nat) _ _), ?_⟩
      refine ⟨⟨i + 1, by omega, rfl, rfl, rfl, rfl, hs, fun j y hj hy => ?_⟩, ?_⟩
      · by_cases hji : j = i
        · subst hji; rw [hxi] at hy; cases hy; exact hpx
        · exact hb j y (by omega) hy
      · show xs.length - ((i : Int) + 1).toNat < xs.length - (i : Int).toNat
        omega
  · refine ⟨(rfl : @Eq (List Nat) _ _), ?_⟩
    have := hk _ hs
    rw [fnd_none fun j y hy => hb j y (by have := (List.getElem?_eq_some_iff.1 hy).1; omega) hy] at this
    exact this
theorem indexFunc_Target {v f : Value} {xs : List audit_Target} (p : audit_Target → Bool) (hs : St L w) (hx : RowIn Eaudit_Target v xs L) (hn : xs.length ≤ 1000000000000)
    (hp : ∀ x w, St L w → CallN Tryd.prog (callS f #[Eaudit_Target.val x]) (fun r w' => r = .bool (p x) ∧ St L w') w)
    (hk : ∀ w, St L w → K (I (fnd p xs)) w) : CallN Tryd.prog (callS (fnv 62) #[v, f]) K w := by
  refine CallN_fn (args := [v, f]) (by kernel_rfl) (F62_calls ?_)
  unfold F62
  refine JoinC_in ?_
  refine CallN_y hs (Yd.len (by assumption)) ?_
  refine Loop_in (fun e w => ∃ i : Nat, i ≤ xs.length ∧ e 8 = I i ∧ e 7 = I xs.length ∧ e 0 = v ∧ e 1 = f ∧ St L w ∧ ∀ (j : Nat) (y : _), j < i → xs[j]? = some y → p y = false) (fun e _ => xs.length - numOf (e 8)) ⟨0, by omega, rfl, rfl, rfl, rfl, hs, fun j y h => by omega⟩ ?_
  rintro e w ⟨i, hi, e8, e7, e0, e1, hs, hb⟩
  obtain ⟨e, rfl⟩ := env4 e8 e7 e0 e1
  unfold F62_p1
  refine Do_y hs (Yd.lss _ _ _ _) ?_
  refine JoinC_in ?_
  refine Cond_dec (fun h => ?_) (fun h => ?_)
  · obtain ⟨x, hxi⟩ : ∃ x, xs[i]? = some x := ⟨xs[i]'(by omega), List.getElem?_eq_getElem (by omega)⟩
    refine ⟨(rfl : @Eq (List Nat) _ _), ?_⟩
    refine JoinC_in ?_
    refine Do_idx' hs hx i x hxi fun b o g => ?_
    refine Do_y hs (Yd.ty (by assumption)) ?_
    refine CallN_mono (fun r w' hr => ?_) (hp x _ hs)
    obtain ⟨rfl, hs⟩ := hr
    refine Cond_split (fun hpx => ?_) (fun hpx => ?_)
    · have := hk _ hs
      rw [fnd_some hxi hpx hb] at this
      exact this
    · refine ⟨(rfl : @Eq (List Nat) _ _), ?_⟩
      refine Do_y hs (Yd.add _ _ _) ?_
      refine ⟨(rfl : @Eq (List Nat) _ _), ?_⟩
      refine ⟨⟨i + 1, by omega, rfl, rfl, rfl, rfl, hs, fun j y hj hy => ?_⟩, ?_⟩
      · by_cases hji : j = i
        · subst hji; rw [hxi] at hy; cases hy; exact hpx
        · exact hb j y (by omega) hy
      · show xs.length - ((i : Int) + 1).toNat < xs.length - (i : Int).toNat
        omega
  · refine ⟨(rfl : @Eq (List Nat) _ _), ?_⟩
    have := hk _ hs
    rw [fnd_none fun j y hy => hb j y (by have := (List.getElem?_eq_some_iff.1 hy).1; omega) hy] at this
    exact this
end Go.Px
end
section
set_option linter.unusedVariables false
set_option linter.unusedSimpArgs false
set_option linter.unusedVariables false
set_option maxRecDepth 20000
namespace Go.Px
open Go Go.Proofs
attribute [local irreducible] Do RdNow RdS RdNowN RdSN CallN Drew Draw Loop JoinC obj own rows at' old Item.r
variable {K : Value → World → Prop} {L : List Item} {w : World}
theorem zero_q : zeroT Tryd.prog 96 = some (Eaudit_question.val zaudit_question) := StT.hz
theorem erase_flat {α : Type} (E : Enc α) (xs : List α) (i : Nat) (hi : i < xs.length) : (xs.eraseIdx i).flatMap E.f = (xs.flatMap E.f).take (i * E.k) ++ (xs.flatMap E.f).drop ((i + 1) * E.k) := by
  rw [List.eraseIdx_eq_take_drop_succ, List.flatMap_append, E.take, E.drop]
theorem delete_q {v : Value} {qs : List audit_question} {i : Nat} (hs : St (own Eaudit_question 96 v qs :: L) w) (hi : i < qs.length) (hn : qs.length ≤ 1000000000000)
    (hk : ∀ v' w', St (own Eaudit_question 96 v' (qs.eraseIdx i) :: L) w' → K v' w') : CallN Tryd.prog (callS (fnv 67) #[v, I i, I ((i : Int) + 1)]) K w := by
  refine CallN_fn (args := [v, I i, I ((i : Int) + 1)]) (by kernel_rfl) (F67_calls ?_)
  unfold F67
  have hfl := Enc.length Eaudit_question qs
  obtain ⟨g, cap, cur, rfl, hc1, hc2, hc3, hc4, hs⟩ := own_open hs (List.Perm.refl _) (fun h => by rw [h] at hi; simp at hi)
  refine CallN_y hs Yd.lenS ?_
  refine Do_y hs (Yd.slhm (k := 37) i (i + 1) qs.length) ?_
  refine JoinC_in ?_
  refine Do_y hs (Yd.eq _ _ _ _ _ _) ?_
  refine Cond_no (by omega) ?_
  refine ⟨(rfl : @Eq (List Nat) _ _), ?_⟩
  unfold F67_p1
  refine CallN_y hs Yd.lenS ?_
  refine Drew_st hs fun w hs => ?_
  refine RdNow_y hs (Yd.sh (k := 37) i) ?_
  refine RdNow_y hs (Yd.sl (k := 37) (i + 1)) ?_
  rw [sliced_at (by omega)]
  have ek : Eaudit_question.k = 37 := rfl
  rw [ek] at hc3 hc4 hfl
  have hnx : ∃ o c, sliced (some ⟨g, 0, none⟩) (i + 1) qs.length cap 37 = SL g o (qs.length - (i + 1)) c ∧ (qs.length - (i + 1) ≠ 0 → o = (i + 1) * 37) := by
    unfold sliced
    by_cases h : cap = i + 1
    · rw [if_pos h]; exact ⟨0, _, rfl, fun h2 => by omega⟩
    · rw [if_neg h]; exact ⟨(i + 1) * 37, cap - (i + 1), by simp [add_off], fun _ => rfl⟩
  obtain ⟨o, c, hsl, ho⟩ := hnx
  rw [hsl]
  have hrow : Row _ g 0 cur := hs.rowB (e := 96) (by simp)
  simp only [Nat.zero_mul, Nat.sub_zero]
  refine st_put (E := Eaudit_question) (e := 96) (bytes := 72) (news := ((qs.flatMap Eaudit_question.f).drop ((i + 1) * 37))) hs (fun hm => ?_) ?_ ?_ (by omega) hc3 fun w hs => ?_
  · rw [ho hm, ← hc4]
    have := (hrow.take (qs.length * 37)).drop ((i + 1) * 37)
    rwa [Nat.zero_add] at this
  · rw [List.length_drop, hfl, ek]; omega
  · rw [List.all_eq_true]
    intro u hu
    exact List.all_eq_true.1 (Eaudit_question.all qs) u (List.mem_of_mem_drop hu)
  refine CallN_y hs Yd.lenS ?_
  refine Do_y hs (Yd.slh (k := 37) (i + (qs.length - (i + 1))) qs.length) ?_
  rw [sliced_at (by omega)]
  have hcl : cur.length = cap * 37 := hc3
  rw [ek] at hs
  have hm1 : i + (qs.length - (i + 1)) = qs.length - 1 := by omega
  rw [hm1] at hs ⊢
  have hm2 : qs.length - (qs.length - 1) = 1 := by omega
  rw [hm2]
  have hfull : qs.length * 37 ≤ cap * 37 := Nat.mul_le_mul_right _ hc1
  have hi37 : i * 37 + 37 ≤ qs.length * 37 := by omega
  have hl2 : (cur.take (i * 37) ++ (qs.flatMap Eaudit_question.f).drop ((i + 1) * 37) ++ cur.drop ((qs.length - 1) * 37)).length = cap * 37 := by
    rw [List.length_append, List.length_append, List.length_take, List.length_drop, List.length_drop, hfl, hcl]; omega
  refine st_clear (E := Eaudit_question) (bytes := 72) zaudit_question hs (by decide) (by rw [hl2, ek]; omega) zero_q fun w zs hz hs => ?_
  rw [ek] at hs hz
  refine hk _ _ (own_close (E := Eaudit_question) hs (by rw [List.length_eraseIdx_of_lt hi]) (by omega) hc2 ?_ ?_)
  · rw [List.length_append, List.length_append, List.length_take, List.length_drop, hl2, hz, ek]; omega
  · rw [erase_flat _ _ _ hi, ek, List.append_assoc, List.take_append_of_le_length (by rw [List.length_take, hl2]; omega), List.take_take, Nat.min_self]
    have e1 : cur.take (i * 37) = (qs.flatMap Eaudit_question.f).take (i * 37) := by
      rw [← hc4, List.take_take, Nat.min_eq_left (by omega)]
    rw [e1]
    have e2 : ((qs.flatMap Eaudit_question.f).take (i * 37) ++ (qs.flatMap Eaudit_question.f).drop ((i + 1) * 37)).length = (qs.length - 1) * 37 := by
      rw [List.length_append, List.length_take, List.length_drop, hfl]; omega
    rw [← e2, List.take_left]
end Go.Px
end
section
set_option linter.unusedVariables false
set_option linter.unusedSimpArgs false
set_option linter.unusedVariables false
set_option maxRecDepth 20000
namespace Go.Px
open Go Go.Proofs
attribute [local irreducible] Do RdNow RdS RdNowN RdSN CallN Drew Draw Loop JoinC obj own rows at' old Item.r
variable {K : Value → World → Prop} {L : List Item} {w : World}
theorem fnd_cases {α : Type} (p : α → Bool) (xs : List α) : (fnd p xs = -1 ∧ ∀ x ∈ xs, p x = false) ∨ ∃ (i : Nat) (x : α), fnd p xs = i ∧ xs[i]? = some x ∧ p x = true ∧ ∀ (j : Nat) (y : α), j < i → xs[j]? = some y → p y = false := by
  unfold fnd
  cases h : xs.findIdx? p with
  | none => exact .inl ⟨rfl, fun x hx => by simpa using List.findIdx?_eq_none_iff.1 h x hx⟩
  | some i =>
    obtain ⟨hi, h1, h2⟩ := List.findIdx?_eq_some_iff_getElem.1 h
    refine .inr ⟨i, xs[i], rfl, List.getElem?_eq_getElem hi, h1, fun j y hj hy => ?_⟩
    have := h2 j hj
    have hy2 := (List.getElem?_eq_some_iff.1 hy).2
    rw [hy2] at this
    simpa using this
theorem clone_Target {v : Value} {xs : List audit_Target} (hs : St L w) (hx : RowIn Eaudit_Target v xs L) (hn : xs.length ≤ 1000000000)
    (hk : ∀ v' w, St (own Eaudit_Target 37 v' xs :: L) w → K v' w) : CallN Tryd.prog (callS (fnv 34) #[v]) K w := by
  refine CallN_fn (args := [v]) (by kernel_rfl) (F34_calls ?_)
  unfold F34
  rcases row_cases hs hx with ⟨rfl, rfl⟩ | ⟨b, o, c, rfl⟩
  · refine JoinC_in ?_
    refine Do_y hs (Yd.nilsl _ _ _ _ _ _) ?_
    refine Cond_true ?_
    exact hk _ _ hs.nil
  · refine JoinC_in ?_
    refine Do_y hs (Yd.nilsl _ _ _ _ _ _) ?_
    refine Cond_false ?_
    refine ⟨(rfl : @Eq (List Nat) _ _), ?_⟩
    refine st_row0 (E := Eaudit_Target) (e := 37) (bytes := 48) hs fun v1 w hs => ?_
    refine st_append (E := Eaudit_Target) (e := 37) (bytes := 48) (L2 := L) (xs := []) (ys := xs) hs (fun w h => hx w h.drop) (fun v' w hs => ?_) (List.Perm.refl _)
    exact hk _ _ (by simpa using hs)
theorem clone_byte {v : Value} {xs : List Nat} (hs : St L w) (hx : RowIn EY v xs L) (hn : xs.length ≤ 1000000000)
    (hk : ∀ v' w, St (own EY 5 v' xs :: L) w → K v' w) : CallN Tryd.prog (callS (fnv 37) #[v]) K w := by
  refine CallN_fn (args := [v]) (by kernel_rfl) (F37_calls ?_)
  unfold F37
  rcases row_cases hs hx with ⟨rfl, rfl⟩ | ⟨b, o, c, rfl⟩
  · refine JoinC_in ?_
    refine Do_y hs (Yd.nilsl _ _ _ _ _ _) ?_
    refine Cond_true ?_
    exact hk _ _ hs.nil
  · refine JoinC_in ?_
    refine Do_y hs (Yd.nilsl _ _ _ _ _ _) ?_
    refine Cond_false ?_
    refine ⟨(rfl : @Eq (List Nat) _ _), ?_⟩
    refine st_row0 (E := EY) (e := 5) (bytes := 1) hs fun v1 w hs => ?_
    refine st_append (E := EY) (e := 5) (bytes := 1) (L2 := L) (xs := []) (ys := xs) hs (fun w h => hx w h.drop) (fun v' w hs => ?_) (List.Perm.refl _)
    exact hk _ _ (by simpa using hs)
theorem filter_take {α : Type} (p : α → Bool) (xs : List α) (j : Nat) (x : α) (hx : xs[j]? = some x) : (xs.take (j + 1)).filter p = (xs.take j).filter p ++ (bif p x then [x] else []) := by
  have hj := (List.getElem?_eq_some_iff.1 hx).1
  rw [List.take_succ_eq_append_getElem hj, List.filter_append, (List.getElem?_eq_some_iff.1 hx).2]
  cases h : p x <;> simp [h]
theorem zero_t : zeroT Tryd.prog 37 = some (Eaudit_Target.val zaudit_Target) := StT.hz
theorem deleteFunc_Target {v f : Value} {xs : List audit_Target} (p : audit_Target → Bool) (hs : St (own Eaudit_Target 37 v xs :: L) w) (hn : xs.length ≤ 1000000000)
    (hp : ∀ L x w, St L w → CallN Tryd.prog (callS f #[Eaudit_Target.val x]) (fun r w' => r = .bool (p x) ∧ St L w') w)
    (hk : ∀ v' w, St (own Eaudit_Target 37 v' (xs.filter fun x => !p x) :: L) w → K v' w) : CallN Tryd.prog (callS (fnv 33) #[v, f]) K w := by
  refine CallN_fn (args := [v, f]) (by kernel_rfl) (F33_calls ?_)
  unfold F33
  refine indexFunc_Target p hs (RowIn.own (e := 37) (List.Mem.head _)) (by omega) (hp _) fun w hs => ?_
  refine JoinC_in ?_
  refine Do_y hs (Yd.eq _ _ _ _ _ _) ?_
  rcases fnd_cases p xs with ⟨h1, h2⟩ | ⟨i, x, h1, hxi, hpx, hb⟩
  · rw [h1]
    refine Cond_true ?_
    have h3 : (xs.filter fun x => !p x) = xs := List.filter_eq_self.2 fun a ha => by rw [h2 a ha]; rfl
    rw [h3] at hk
    exact hk _ _ hs
  · rw [h1]
    have hil := (List.getElem?_eq_some_iff.1 hxi).1
    refine Cond_false ?_
    refine ⟨(rfl : @Eq (List Nat) _ _), ?_⟩
    unfold F33_p2
    refine JoinC_in ?_
    refine Do_y hs (Yd.add _ _ _) ?_
    refine Loop_in (fun e w => ∃ (i j : Nat) (ys : List audit_Target), i < j ∧ j ≤ xs.length ∧ ys.length = xs.length ∧ e 6 = I j ∧ e 5 = I i ∧ e 0 = v ∧ e 1 = f ∧ St (own Eaudit_Target 37 v ys :: L) w ∧ ys.take i = (xs.take j).filter (fun x => !p x) ∧ ys.drop j = xs.drop j)
      (fun e _ => xs.length - numOf (e 6)) ⟨i, i + 1, xs, by omega, by omega, rfl, rfl, rfl, rfl, rfl, hs, ?_, rfl⟩ ?_
    · rw [filter_take _ _ _ _ hxi, hpx]
      have : (xs.take i).filter (fun x => !p x) = xs.take i := List.filter_eq_self.2 fun a ha => by
        obtain ⟨k, hk1, hk2⟩ := List.mem_iff_getElem.1 ha
        rw [List.length_take] at hk1
        rw [hb k a (by omega) (by rw [← hk2, List.getElem_take, List.getElem?_eq_getElem])]; rfl
      rw [this]
      simp
    · clear h1 hxi hpx hb hil i x
      rintro e w ⟨i, j, ys, hij, hj, hl, e6, e5, e0, e1, hs, h1, h2⟩
      obtain ⟨e, rfl⟩ := env4 e6 e5 e0 e1
      refine JoinC_in ?_
      refine CallN_y hs (Yd.len (RowIn.own (by repeat (first | assumption | exact List.Mem.head _ | apply List.Mem.tail)))) ?_
      refine Do_y hs (Yd.lss _ _ _ _) ?_
      refine Cond_dec (fun h => ?_) (fun h => ?_)
      · obtain ⟨x, hxj⟩ : ∃ x, xs[j]? = some x := ⟨xs[j]'(by omega), List.getElem?_eq_getElem (by omega)⟩
        have hyj : ys[j]? = some x := by
          have e1 : (ys.drop j)[0]? = (xs.drop j)[0]? := by rw [h2]
          rw [List.getElem?_drop, List.getElem?_drop] at e1
          rw [← hxj]; simpa using e1
        have hd : ys.drop (j + 1) = xs.drop (j + 1) := by
          have e1 : (ys.drop j).drop 1 = (xs.drop j).drop 1 := by rw [h2]
          rwa [List.drop_drop, List.drop_drop] at e1
        refine ⟨(rfl : @Eq (List Nat) _ _), ?_⟩
        unfold F33_p1
        refine JoinC_in ?_
        refine Do_idx' hs (RowIn.own (e := 37) (List.Mem.head _)) j x hyj fun b o g => ?_
        refine Do_y hs (Yd.ty (by assumption)) ?_
        refine st_alloc _ hs (fun b w hs => ?_) zero_t
        refine st_ty (y := x) hs .here (fun w hs => ?_) rfl
        refine Do_y hs (Yd.ty (Gd.bE (by repeat (first | assumption | exact List.Mem.head _ | apply List.Mem.tail)))) ?_
        refine CallN_mono (fun r w' hr => ?_) (hp _ x _ hs)
        obtain ⟨rfl, hs⟩ := hr
        have hft := filter_take (fun x => !p x) xs j x hxj
        refine Do_y hs (Yd.not _) ?_
        refine Cond_not ?_
        refine Cond_split (fun hpx => ?_) (fun hpx => ?_)
        · refine ⟨(rfl : @Eq (List Nat) _ _), ?_⟩
          refine Do_y hs (Yd.add _ _ _) ?_
          refine ⟨(rfl : @Eq (List Nat) _ _), ?_⟩
          refine ⟨⟨i, j + 1, ys, by omega, by omega, hl, rfl, rfl, rfl, rfl, hs.drop, ?_, hd⟩, ?_⟩
          · rw [hft, hpx, h1]; simp
          · show xs.length - ((j : Int) + 1).toNat < xs.length - (j : Int).toNat
            omega
        · refine Do_y hs (Yd.ty (Gd.bE (by repeat (first | assumption | exact List.Mem.head _ | apply List.Mem.tail)))) ?_
          refine st_elem (k := .i64) (i := (i : Int)) hs.swap i x (fun q w hs => ?_)
          refine Do_y hs (Yd.add _ _ _) ?_
          refine ⟨(rfl : @Eq (List Nat) _ _), ?_⟩
          refine Do_y hs (Yd.add _ _ _) ?_
          refine ⟨(rfl : @Eq (List Nat) _ _), ?_⟩
          refine ⟨⟨i + 1, j + 1, ys.set i x, by omega, by omega, by rw [List.length_set, hl], rfl, rfl, rfl, rfl, hs.swap.drop, ?_, ?_⟩, ?_⟩
          · rw [hft, hpx, List.take_set, List.take_succ_eq_append_getElem (by omega), h1]
            have hlen : ((xs.take j).filter fun x => !p x).length = i := by rw [← h1, List.length_take]; omega
            rw [List.set_append_right _ _ (by omega), hlen, Nat.sub_self]
            rfl
          · rw [List.drop_set_of_lt (by omega), hd]
          · show xs.length - ((j : Int) + 1).toNat < xs.length - (j : Int).toNat
            omega
      · have hjn : j = xs.length := by omega
        subst hjn
        refine ⟨(rfl : @Eq (List Nat) _ _), ?_⟩
        obtain ⟨g, cap, cur, rfl, c1, c2, c3, c4, hs⟩ := own_open hs (List.Perm.refl _) (fun h => by rw [h] at hl; simp at hl; omega)
        refine Do_y hs (Yd.sl (k := 34) i) ?_
        rw [sliced_at (by omega)]
        refine st_clear (E := Eaudit_Target) (bytes := 48) zaudit_Target hs (by omega) ?_ zero_t fun w zs hz hs => ?_
        · have c5 : ys.length * 34 ≤ cap * 34 := Nat.mul_le_mul_right _ c1
          have c6 : cur.length = cap * 34 := c3
          show i * 34 + (ys.length - i) * 34 ≤ cur.length
          omega
        refine Do_y hs (Yd.sh (k := 34) i) ?_
        rw [sliced_at (by omega)]
        have e34 : Eaudit_Target.k = 34 := rfl
        rw [e34] at c3 c4 hz hs
        have hcap : ys.length * 34 ≤ cap * 34 := Nat.mul_le_mul_right _ c1
        have hxf : (xs.take xs.length).filter (fun x => !p x) = xs.filter fun x => !p x := by rw [List.take_length]
        rw [hxf] at h1
        refine hk _ _ ?_
        simp only [Nat.zero_mul, Nat.sub_zero]
        refine own_close (E := Eaudit_Target) hs ?_ (by omega) c2 ?_ ?_
        · rw [← h1, List.length_take]; omega
        · rw [List.length_append, List.length_append, List.length_take, List.length_drop, hz, e34]; omega
        · rw [e34, List.append_assoc, List.take_append_of_le_length (by rw [List.length_take]; omega), List.take_take, Nat.min_self, ← h1]
          have := Enc.take Eaudit_Target ys i
          rw [e34] at this
          rw [← this, ← c4, List.take_take, Nat.min_eq_left (by omega)]
end Go.Px
end
section
set_option linter.unusedVariables false
set_option linter.unusedSimpArgs false
set_option linter.unusedVariables false
set_option maxRecDepth 20000
namespace Go.Px
open Go Go.Proofs
attribute [local irreducible] Do RdNow RdS RdNowN RdSN CallN Drew Draw Loop JoinC obj own rows at' old Item.r
variable {K : Value → World → Prop} {L : List Item} {w : World}
abbrev EA : Enc audit_Auditor := Eaudit_Auditor
abbrev EQ : Enc audit_question := Eaudit_question
abbrev EN : Enc notes_Note := Enotes_Note
abbrev ET : Enc audit_Target := Eaudit_Target
abbrev TA : Nat := 85
abbrev TQ : Nat := 96
abbrev TN : Nat := 33
theorem new_ok (hs : St L w) (hk : ∀ a w, St (box a TA (EA.f ⟨0, sv0⟩) :: own EQ TQ NoSl [] :: L) w → K (A a 0) w) : CallN Tryd.prog (callS (fnv 9) #[]) K w := by
  refine CallN_fn (args := []) (by kernel_rfl) (F9_calls ?_)
  unfold F9
  refine Do_y hs Yd.build0 ?_
  exact st_boxE (E := EA) (x := ⟨0, sv0⟩) hs.nil fun b w hs => hk b w hs
theorem open_ok {a d : Nat} {sv : SV} {qs : List audit_question} (hs : St L w) (ha : box a TA (EA.f ⟨d, sv⟩) ∈ L) (hq : own EQ TQ sv.1 qs ∈ L) (hk : K (I qs.length) w) : CallN Tryd.prog (callS (fnv 13) #[A a 0]) K w := by
  refine CallN_fn (args := [A a 0]) (by kernel_rfl) (F13_calls ?_)
  unfold F13
  refine JoinC_in ?_
  refine Do_y hs (Yd.nilp _ _ _ _ _) ?_
  refine Cond_false ?_
  refine ⟨(rfl : @Eq (List Nat) _ _), ?_⟩
  refine CallN_y hs (Yd.nils _ _) ?_
  refine Do_y hs (Yd.fld) ?_
  refine Do_y hs (Yd.bx (by repeat (first | assumption | exact List.Mem.head _ | apply List.Mem.tail))) ?_
  refine CallN_y hs (Yd.len (RowIn.own (by repeat (first | assumption | exact List.Mem.head _ | apply List.Mem.tail)))) ?_
  exact hk
/-- The predicate of an answer. -/
theorem handle1_ok {bw bn : Nat} {who : Int} {n : notes_Note} (x : audit_question) (hw : box bw 3 (EI.f who) ∈ L) (hn : box bn TN (EN.f n) ∈ L) (hs : St L w) :
    CallN Tryd.prog (callS (.func (.func 40) #[] #[A bw 0, A bn 0]) #[EQ.val x]) (fun r w' => r = .bool (decide (x.about = ⟨who, n.Pack, n.Nonce⟩)) ∧ St L w') w := by
  refine CallN_closure (first := []) (captured := [A bw 0, A bn 0]) (args := [EQ.val x]) (by kernel_rfl) (F40_calls ?_)
  unfold F40
  refine st_boxE hs fun b w hs => ?_
  refine Do_y hs (Yd.fld) ?_
  refine Do_y hs (Yd.fl (Gd.bE (by repeat (first | assumption | exact List.Mem.head _ | apply List.Mem.tail)))) ?_
  refine Do_y hs (Yd.bx (by repeat (first | assumption | exact List.Mem.head _ | apply List.Mem.tail))) ?_
  refine Do_y hs (Yd.fld) ?_
  refine Do_y hs (Yd.fl (Gd.bE (by repeat (first | assumption | exact List.Mem.head _ | apply List.Mem.tail)))) ?_
  refine Do_y hs (Yd.fld) ?_
  refine Do_y hs (Yd.fl (Gd.bE (by repeat (first | assumption | exact List.Mem.head _ | apply List.Mem.tail)))) ?_
  refine Do_y hs (Yd.build (x := (⟨who, n.Pack, n.Nonce⟩ : audit_about)) (.cons _ rfl (.cons _ rfl (.cons _ rfl .nil)))) ?_
  refine Do_y hs (Yd.eqA) ?_
  exact ⟨rfl, hs.drop⟩
theorem handle2_ok {bw bn : Nat} {who : Int} {n : notes_Note} (x : audit_question) (hw : box bw 3 (EI.f who) ∈ L) (hn : box bn TN (EN.f n) ∈ L) (hs : St L w) :
    CallN Tryd.prog (callS (.func (.func 42) #[] #[A bw 0, A bn 0]) #[EQ.val x]) (fun r w' => r = .bool (decide (x.about.who = who ∧ x.about.pack = n.Pack)) ∧ St L w') w := by
  refine CallN_closure (first := []) (captured := [A bw 0, A bn 0]) (args := [EQ.val x]) (by kernel_rfl) (F42_calls ?_)
  unfold F42
  refine st_boxE hs fun b w hs => ?_
  refine Do_y hs (Yd.fld) ?_
  refine Do_y hs (Yd.fld) ?_
  refine Do_y hs (Yd.bx (by repeat (first | assumption | exact List.Mem.head _ | apply List.Mem.tail))) ?_
  refine Do_y hs (Yd.bx (by repeat (first | assumption | exact List.Mem.head _ | apply List.Mem.tail))) ?_
  refine Do_y hs (Yd.eq _ _ _ _ _ _) ?_
  refine Join_in ?_
  refine Guard_dec (fun h => ?_) (fun h => ?_)
  · refine Do_y hs (Yd.fld) ?_
    refine Do_y hs (Yd.fld) ?_
    refine Do_y hs (Yd.fl (Gd.fl (Gd.bE (by repeat (first | assumption | exact List.Mem.head _ | apply List.Mem.tail))))) ?_
    refine Do_y hs (Yd.fld) ?_
    refine Do_y hs (Yd.fl (Gd.bE (by repeat (first | assumption | exact List.Mem.head _ | apply List.Mem.tail)))) ?_
    refine Do_y hs (Yd.eqA) ?_
    refine CallN_y hs (Yd.pickb _ _ _) ?_
    exact ⟨by simp [h], hs.drop⟩
  · refine CallN_y hs (Yd.pick _ _ _) ?_
    exact ⟨by simp [h], hs.drop⟩
theorem late1_ok {bn bw now wait : Nat} (x : audit_question) (hw : box bn 23 (EW.f now) ∈ L) (hn : box bw 23 (EW.f wait) ∈ L) (h64 : now < 18446744073709551616) (hs : St L w) :
    CallN Tryd.prog (callS (.func (.func 52) #[] #[A bn 0, A bw 0]) #[EQ.val x]) (fun r w' => r = .bool (decide (x.since ≤ now ∧ wait ≤ now - x.since)) ∧ St L w') w := by
  refine CallN_closure (first := []) (captured := [A bn 0, A bw 0]) (args := [EQ.val x]) (by kernel_rfl) (F52_calls ?_)
  unfold F52
  refine st_boxE hs fun b w hs => ?_
  refine Do_y hs (Yd.fld) ?_
  refine Do_y hs (Yd.fl (Gd.bE (by repeat (first | assumption | exact List.Mem.head _ | apply List.Mem.tail)))) ?_
  refine Do_y hs (Yd.bx (by repeat (first | assumption | exact List.Mem.head _ | apply List.Mem.tail))) ?_
  refine Do_y hs (Yd.leq _ _ _ _) ?_
  refine Join_in ?_
  refine Guard_dec (fun h => ?_) (fun h => ?_)
  · have h : x.since ≤ now := by omega
    refine Do_y hs (Yd.bx (by repeat (first | assumption | exact List.Mem.head _ | apply List.Mem.tail))) ?_
    refine Do_y hs (Yd.fld) ?_
    refine Do_y hs (Yd.fl (Gd.bE (by repeat (first | assumption | exact List.Mem.head _ | apply List.Mem.tail)))) ?_
    refine Do_y hs (Yd.subW _ _ _) ?_
    refine Do_y hs (Yd.bx (by repeat (first | assumption | exact List.Mem.head _ | apply List.Mem.tail))) ?_
    refine Do_y hs (Yd.geq _ _ _ _) ?_
    refine CallN_y hs (Yd.pickb _ _ _) ?_
    refine ⟨?_, hs.drop⟩
    simp [h]
  · refine CallN_y hs (Yd.pick _ _ _) ?_
    refine ⟨?_, hs.drop⟩
    have : ¬ x.since ≤ now := by omega
    simp [h, this]
theorem draw1_ok (x : audit_Target) (hs : St L w) :
    CallN Tryd.prog (callS (fnv 35) #[ET.val x]) (fun r w' => r = .bool (decide (x.Leaves < 1 ∨ 65536 < x.Leaves)) ∧ St L w') w := by
  refine CallN_fn (args := [ET.val x]) (by kernel_rfl) (F35_calls ?_)
  unfold F35
  refine st_boxE hs fun b w hs => ?_
  refine Do_y hs (Yd.fld) ?_
  refine Do_y hs (Yd.fl (Gd.bE (by repeat (first | assumption | exact List.Mem.head _ | apply List.Mem.tail)))) ?_
  refine Do_y hs (Yd.lss _ _ _ _) ?_
  refine Join_in ?_
  refine Guard_decF (fun h => ?_) (fun h => ?_)
  · refine Do_y hs (Yd.fld) ?_
    refine Do_y hs (Yd.fl (Gd.bE (by repeat (first | assumption | exact List.Mem.head _ | apply List.Mem.tail)))) ?_
    refine Do_y hs (Yd.gtr _ _ _ _) ?_
    refine CallN_y hs (Yd.pickb _ _ _) ?_
    refine ⟨?_, hs.drop⟩
    simp only [decide_eq_false h, cond_false, Value.bool.injEq, decide_eq_decide]
    omega
  · refine CallN_y hs (Yd.pick _ _ _) ?_
    refine ⟨?_, hs.drop⟩
    simp only [decide_eq_true h, cond_true, Value.bool.injEq]
    symm
    rw [decide_eq_true_iff]
    exact .inl h
/-- One that is so is taken out. -/
theorem close_ok {a d : Nat} {sv : SV} {qs : List audit_question} {f : Value} (p : audit_question → Bool) (hs : St (box a TA (EA.f ⟨d, sv⟩) :: own EQ TQ sv.1 qs :: L) w) (hn : qs.length ≤ 1000000000)
    (hp : ∀ L' x w, (∀ y ∈ L, y ∈ L') → St L' w → CallN Tryd.prog (callS f #[EQ.val x]) (fun r w' => r = .bool (p x) ∧ St L' w') w)
    (hk1 : (∀ x ∈ qs, p x = false) → ∀ w, St (box a TA (EA.f ⟨d, sv⟩) :: own EQ TQ sv.1 qs :: L) w → K (.tuple #[EQ.val zaudit_question, .bool false]) w)
    (hk2 : ∀ (i : Nat) x sv' w, qs[i]? = some x → p x = true → (∀ (j : Nat) y, j < i → qs[j]? = some y → p y = false) → St (box a TA (EA.f ⟨d, sv'⟩) :: own EQ TQ sv'.1 (qs.eraseIdx i) :: L) w → K (.tuple #[EQ.val x, .bool true]) w) :
    CallN Tryd.prog (callS (fnv 39) #[A a 0, f]) K w := by
  refine CallN_fn (args := [A a 0, f]) (by kernel_rfl) (F39_calls ?_)
  unfold F39
  refine st_new hs fun b w hs => ?_
  refine JoinC_in ?_
  refine Do_y hs (Yd.nilp _ _ _ _ _) ?_
  refine Cond_false ?_
  refine ⟨(rfl : @Eq (List Nat) _ _), ?_⟩
  unfold F39_p2
  refine CallN_y hs (Yd.nils _ _) ?_
  refine Do_y hs (Yd.fld) ?_
  refine Do_y hs (Yd.bx (by repeat (first | assumption | exact List.Mem.head _ | apply List.Mem.tail))) ?_
  refine indexFunc_question p hs (RowIn.own (e := TQ) (List.Mem.tail _ (List.Mem.tail _ (List.Mem.head _)))) (by omega) (fun x w hs => hp _ x w (fun y hy => by simp [hy]) hs) fun w hs => ?_
  refine JoinC_in ?_
  refine Do_y hs (Yd.lss _ _ _ _) ?_
  rcases fnd_cases p qs with ⟨h1, h2⟩ | ⟨i, x, h1, hxi, hpx, hb⟩
  · rw [h1]
    refine Cond_true ?_
    refine Do_y hs Yd.build0 ?_
    refine st_ty hs .here (fun w hs => ?_)
    refine RdNow_y hs (Yd.cellS (Yd.ty (Gd.bE (by repeat (first | assumption | exact List.Mem.head _ | apply List.Mem.tail))))) ?_
    exact hk1 h2 _ hs.drop
  · rw [h1]
    have hil := (List.getElem?_eq_some_iff.1 hxi).1
    refine Cond_false ?_
    refine ⟨(rfl : @Eq (List Nat) _ _), ?_⟩
    unfold F39_p1
    refine CallN_y hs (Yd.nils _ _) ?_
    refine Do_y hs (Yd.fld) ?_
    refine Do_y hs (Yd.bx (by repeat (first | assumption | exact List.Mem.head _ | apply List.Mem.tail))) ?_
    refine Do_idx' hs (RowIn.own (e := TQ) (List.Mem.tail _ (List.Mem.tail _ (List.Mem.head _)))) i x hxi fun b2 o2 g2 => ?_
    refine Do_y hs (Yd.ty (by assumption)) ?_
    refine st_new hs fun b3 w hs => ?_
    refine st_ty (y := x) hs .here (fun w hs => ?_)
    refine CallN_y hs (Yd.nils _ _) ?_
    refine Do_y hs (Yd.fld) ?_
    refine Do_y hs (Yd.bx (by repeat (first | assumption | exact List.Mem.head _ | apply List.Mem.tail))) ?_
    refine Do_y hs (Yd.add _ _ _) ?_
    have hs := hs.pull 3 rfl
    refine delete_q hs hil (by omega) fun v' w hs => ?_
    refine CallN_y hs (Yd.nils _ _) ?_
    refine Do_y hs (Yd.fld) ?_
    have hv := own_sv hs (List.Mem.head _)
    refine st_fl (E2 := ESV) (y := (⟨v', hv⟩ : SV)) hs (by repeat (first | exact Upd.here | apply Upd.there)) (fun w hs => ?_)
    refine Do_y hs (Yd.ty (Gd.bE (by repeat (first | assumption | exact List.Mem.head _ | apply List.Mem.tail)))) ?_
    refine st_ty (y := x) hs (by repeat (first | exact Upd.here | apply Upd.there)) (fun w hs => ?_)
    refine RdNow_y hs (Yd.cellS (Yd.ty (Gd.bE (by repeat (first | assumption | exact List.Mem.head _ | apply List.Mem.tail))))) ?_
    exact hk2 i x ⟨v', hv⟩ _ hxi hpx hb (St.sub (L' := [box a TA (EA.f ⟨d, ⟨v', hv⟩⟩), own EQ TQ v' (qs.eraseIdx i)] ++ L) (hs.pull 3 rfl) (by repeat (first | exact List.nil_sublist _ | exact List.Sublist.refl _ | exact List.sublist_append_left _ _ | apply List.Sublist.cons_cons | apply List.Sublist.cons)))
end Go.Px
end
section
set_option linter.unusedVariables false
set_option linter.unusedSimpArgs false
set_option linter.unusedVariables false
set_option maxRecDepth 20000
namespace Go.Px
open Go Go.Proofs
attribute [local irreducible] Do RdNow RdS RdNowN RdSN CallN Drew Draw Loop JoinC obj own rows at' old Item.r
variable {K : Value → World → Prop} {L : List Item} {w : World}
def okT (t : audit_Target) : Bool := !decide (t.Leaves < 1 ∨ 65536 < t.Leaves)
/-- What is asked. -/
def asked (t : audit_Target) (d leaf now : Nat) : audit_question := ⟨⟨t.Who, t.Pack, d⟩, leaf, t.Leaves, now⟩
def askN (t : audit_Target) (d leaf : Nat) : notes_Note := ⟨6, t.Pack, leaf, d, sv0, sv0⟩
theorem draw_ok {a d : Nat} {sv : SV} {qs : List audit_question} {v : Value} {ts : List audit_Target} {lot now : Nat} (hs : St (box a TA (EA.f ⟨d, sv⟩) :: own EQ TQ sv.1 qs :: L) w) (ht : rows ET v ts ∈ L)
    (hn : ts.length ≤ 1000000) (hq : qs.length ≤ 1000000) (hlot : lot < 18446744073709551616) (hd : d < 1000000000)
    (hk1 : ts.filter okT = [] → ∀ w, St (box a TA (EA.f ⟨d, sv⟩) :: own EQ TQ sv.1 qs :: L) w → K (.tuple #[I 0, EN.val znotes_Note, .bool false]) w)
    (hk2 : ∀ t sv' w, (ts.filter okT)[lot % (ts.filter okT).length]? = some t → St (box a TA (EA.f ⟨d + 1, sv'⟩) :: own EQ TQ sv'.1 (qs ++ [asked t (d + 1) (lot / (ts.filter okT).length % t.Leaves.toNat) now]) :: L) w →
      K (.tuple #[I t.Who, EN.val (askN t (d + 1) (lot / (ts.filter okT).length % t.Leaves.toNat)), .bool true]) w) :
    CallN Tryd.prog (callS (fnv 12) #[A a 0, v, W lot, W now]) K w := by
  refine CallN_fn (args := [A a 0, v, W lot, W now]) (by kernel_rfl) (F12_calls ?_)
  unfold F12
  refine st_new hs fun b w hs => ?_
  refine clone_Target (xs := ts) hs (RowIn.of (by repeat (first | assumption | exact List.Mem.head _ | exact List.mem_append_left _ (by assumption) | apply List.Mem.tail))) (by omega) fun v1 w hs => ?_
  refine deleteFunc_Target (fun t => decide (t.Leaves < 1 ∨ 65536 < t.Leaves)) hs (by omega) (fun L x w hs => draw1_ok x hs) fun v2 w hs => ?_
  have hfl : (ts.filter fun t => !decide (t.Leaves < 1 ∨ 65536 < t.Leaves)) = ts.filter okT := rfl
  rw [hfl] at hs
  have hlen : (ts.filter okT).length ≤ ts.length := List.length_filter_le _ _
  generalize hl : ts.filter okT = l at hs hk1 hk2 hlen
  refine JoinC_in ?_
  refine Do_y hs (Yd.nilp _ _ _ _ _) ?_
  refine Join_in ?_
  refine Guard_t ?_
  refine CallN_y hs (Yd.len (RowIn.own (by repeat (first | assumption | exact List.Mem.head _ | apply List.Mem.tail)))) ?_
  refine Do_y hs (Yd.eq _ _ _ _ _ _) ?_
  refine CallN_y hs (Yd.pickb _ _ _) ?_
  refine Cond_dec (fun h => ?_) (fun h => ?_)
  · have h0 : l = [] := List.eq_nil_of_length_eq_zero (by omega)
    refine Do_y hs Yd.build0 ?_
    refine st_ty hs (by repeat (first | exact Upd.here | apply Upd.there)) (fun w hs => ?_)
    refine RdNow_y hs (Yd.cellS (Yd.ty (Gd.bE (by repeat (first | assumption | exact List.Mem.head _ | apply List.Mem.tail))))) ?_
    exact hk1 h0 _ hs.drop.drop
  · refine ⟨(rfl : @Eq (List Nat) _ _), ?_⟩
    unfold F12_p1
    refine CallN_y hs (Yd.len (RowIn.own (by repeat (first | assumption | exact List.Mem.head _ | apply List.Mem.tail)))) ?_
    refine Do_y hs (Yd.cNW _ _ _) ?_
    refine Do_y hs (Yd.remW _ _ _) ?_
    have hm : lot % l.length < l.length := Nat.mod_lt _ (by omega)
    obtain ⟨t, hti⟩ : ∃ t, l[lot % l.length]? = some t := ⟨l[lot % l.length], List.getElem?_eq_getElem hm⟩
    have htm : t ∈ ts.filter okT := by rw [hl]; exact List.mem_of_getElem? hti
    have htl := (List.mem_filter.1 htm).2
    unfold okT at htl
    simp only [Bool.not_eq_true', decide_eq_false_iff_not, not_or, Int.not_lt] at htl
    have hm2 : lot / l.length % t.Leaves.toNat < t.Leaves.toNat := Nat.mod_lt _ (by omega)
    refine Do_idx' hs (RowIn.own (e := 37) (by repeat (first | assumption | exact List.Mem.head _ | exact List.mem_append_left _ (by assumption) | apply List.Mem.tail))) (lot % l.length) t hti fun b1 o1 g1 => ?_
    refine Do_y hs (Yd.ty (by assumption)) ?_
    refine st_new hs fun b2 w hs => ?_
    refine st_ty (y := t) hs (by repeat (first | exact Upd.here | apply Upd.there)) (fun w hs => ?_)
    refine Drew_st hs fun w hs => ?_
    refine RdNow_y hs (Yd.quoW _ _ _) ?_
    refine RdNow_y hs (Yd.fld) ?_
    refine RdNow_y hs (Yd.fl (Gd.bE (by repeat (first | assumption | exact List.Mem.head _ | apply List.Mem.tail)))) ?_
    refine RdNow_y hs (Yd.cIW _ _) ?_
    refine RdNow_y hs (Yd.remW _ _ _) ?_
    refine CallN_y hs (Yd.nils _ _) ?_
    refine Do_y hs (Yd.fld) ?_
    refine Do_y hs (Yd.bx (by repeat (first | assumption | exact List.Mem.head _ | apply List.Mem.tail))) ?_
    refine Do_y hs (Yd.addW _ _ _) ?_
    refine CallN_y hs (Yd.nils _ _) ?_
    refine Do_y hs (Yd.fld) ?_
    refine st_fl (E := EA) (E2 := EW) (y := d + 1) hs (by repeat (first | exact Upd.here | apply Upd.there)) (fun w hs => ?_)
    refine Drew_st hs fun w hs => ?_
    refine Draw_st hs [box b2 37 (ET.f t), box a TA (EA.f ⟨d + 1, sv⟩)] (by repeat (first | exact List.nil_sublist _ | exact List.Sublist.refl _ | exact List.sublist_append_left _ _ | apply List.Sublist.cons_cons | apply List.Sublist.cons)) ?_
    refine RdSN_y (Yd.nils _ _) ?_
    refine RdS_y (Yd.fld) ?_
    refine RdS_y (Yd.bx (by repeat (first | assumption | exact List.Mem.head _ | apply List.Mem.tail))) ?_
    refine RdS_y (Yd.fld) ?_
    refine RdS_y (Yd.bx (by repeat (first | assumption | exact List.Mem.head _ | apply List.Mem.tail))) ?_
    refine RdS_y (Yd.fld) ?_
    refine RdS_y (Yd.fl (Gd.bE (by repeat (first | assumption | exact List.Mem.head _ | apply List.Mem.tail)))) ?_
    refine RdSN_y (Yd.nils _ _) ?_
    refine RdS_y (Yd.fld) ?_
    refine RdS_y (Yd.bx (by repeat (first | assumption | exact List.Mem.head _ | apply List.Mem.tail))) ?_
    refine RdS_y (Yd.build (x := (⟨t.Who, t.Pack, d + 1⟩ : audit_about)) (.cons _ rfl (.cons _ rfl (.cons _ rfl .nil)))) ?_
    refine RdS_y (Yd.cWI _ _) ?_
    refine RdS_y (Yd.fld) ?_
    refine RdS_y (Yd.fl (Gd.bE (by repeat (first | assumption | exact List.Mem.head _ | apply List.Mem.tail)))) ?_
    refine RdS_y (Yd.build (x := asked t (d + 1) (lot / l.length % t.Leaves.toNat) now) (.cons (⟨t.Who, t.Pack, d + 1⟩ : audit_about) rfl (.cons _ rfl (.cons _ rfl (.cons _ rfl .nil))))) ?_
    refine st_row1 (E := EQ) (e := TQ) (bytes := 72) hs fun v3 w hs _ => ⟨hs.sub (by repeat (first | exact List.nil_sublist _ | exact List.Sublist.refl _ | exact List.sublist_append_left _ _ | apply List.Sublist.cons_cons | apply List.Sublist.cons)), ?_⟩
    have hs := hs.pull 5 rfl; try simp only [List.nil_append, List.cons_append, List.eraseIdx_cons_succ, List.eraseIdx_cons_zero] at hs
    refine st_append (E := EQ) (e := TQ) (bytes := 72) (xs := qs) (ys := [asked t (d + 1) (lot / l.length % t.Leaves.toNat) now]) hs (RowIn.own (e := TQ) (by repeat (first | assumption | exact List.Mem.head _ | exact List.mem_append_left _ (by assumption) | apply List.Mem.tail))) (fun v4 w hs => ⟨hs.sub (by repeat (first | exact List.nil_sublist _ | exact List.Sublist.refl _ | exact List.sublist_append_left _ _ | apply List.Sublist.cons_cons | apply List.Sublist.cons)), ?_⟩) (List.Perm.refl _)
    refine RdSN_y (Yd.nils _ _) ?_
    refine RdNow_y hs (Yd.fld) ?_
    have hv := own_sv hs (List.Mem.head _)
    refine st_fl (E := EA) (E2 := ESV) (y := (⟨v4, hv⟩ : SV)) hs (by repeat (first | exact Upd.here | apply Upd.there)) (fun w hs => ?_)
    refine Drew_st hs fun w hs => ?_
    refine RdNow_y hs (Yd.fld) ?_
    refine RdNow_y hs (Yd.bx (by repeat (first | assumption | exact List.Mem.head _ | apply List.Mem.tail))) ?_
    refine RdNow_y hs (Yd.fld) ?_
    refine RdNow_y hs (Yd.fl (Gd.bE (by repeat (first | assumption | exact List.Mem.head _ | apply List.Mem.tail)))) ?_
    refine RdNowN_y hs (Yd.nils _ _) ?_
    refine RdNow_y hs (Yd.fld) ?_
    refine RdNow_y hs (Yd.bx (by repeat (first | assumption | exact List.Mem.head _ | apply List.Mem.tail))) ?_
    refine RdNow_y hs (Yd.build (x := askN t (d + 1) (lot / l.length % t.Leaves.toNat)) (.cons _ rfl (.cons _ rfl (.cons _ rfl (.cons _ rfl .nil))))) ?_
    refine st_ty hs (by repeat (first | exact Upd.here | apply Upd.there)) (fun w hs => ?_)
    refine RdNow_y hs (Yd.cellS (Yd.ty (Gd.bE (by repeat (first | assumption | exact List.Mem.head _ | apply List.Mem.tail))))) ?_
    exact hk2 t ⟨v4, hv⟩ _ hti ((hs.pull 5 rfl).sub (by repeat (first | exact List.nil_sublist _ | exact List.Sublist.refl _ | exact List.sublist_append_left _ _ | apply List.Sublist.cons_cons | apply List.Sublist.cons)))
end Go.Px
end
section
set_option linter.unusedVariables false
set_option linter.unusedSimpArgs false
set_option linter.unusedVariables false
set_option linter.unusedSimpArgs false
set_option maxRecDepth 20000
namespace Go.Px
open Go Go.RowKit
variable {α β : Type} {P : Program} {L L2 : List Item} {w : World} {K : Value → World → Prop}
/-! ### Many rows -/
def many (E : Enc α) (svs : List SV) (xss : List (List α)) : Item where
  excl := false
  foot k := ∃ (i : Nat) (sv : SV) (xs : List α), svs[i]? = some sv ∧ xss[i]? = some xs ∧ (rows E sv.1 xs).foot k
  holds w := svs.length = xss.length ∧ ∀ (i : Nat) (sv : SV) (xs : List α), svs[i]? = some sv → xss[i]? = some xs → (rows E sv.1 xs).holds w
  stable h g hm := ⟨h.1, fun i sv xs h1 h2 => (rows E sv.1 xs).stable (h.2 i sv xs h1 h2) g fun k hk => hm k ⟨i, sv, xs, h1, h2, hk⟩⟩
  lt h hk := by
    obtain ⟨i, sv, xs, h1, h2, h3⟩ := hk
    exact (rows E sv.1 xs).lt (h.2 i sv xs h1 h2) h3
theorem many_len {E : Enc α} {svs : List SV} {xss : List (List α)} (hs : St L w) (h : many E svs xss ∈ L) : svs.length = xss.length := (hs.get h).1
theorem many_row {E : Enc α} {svs : List SV} {xss : List (List α)} (hs : St L w) (h : many E svs xss ∈ L) {i : Nat} {sv : SV} {xs : List α} (h1 : svs[i]? = some sv) (h2 : xss[i]? = some xs) : St (rows E sv.1 xs :: L) w :=
  hs.ro ((hs.get h).2 i sv xs h1 h2) rfl fun k hk => ⟨_, h, rfl, i, sv, xs, h1, h2, hk⟩
theorem St.dup {E : Enc α} {v : Value} {xs : List α} (hs : St L w) (h : rows E v xs ∈ L) : St (rows E v xs :: L) w := hs.ro (hs.get h) rfl fun k hk => ⟨_, h, rfl, hk⟩
theorem many_nil {E : Enc α} (hs : St L w) : St (many E [] [] :: L) w := hs.ro ⟨rfl, fun i sv xs h => by simp at h⟩ rfl fun k ⟨i, sv, xs, h, _⟩ => by simp at h
theorem many_add {E : Enc α} {svs : List SV} {xss : List (List α)} {sv : SV} {xs : List α} (hs : St L w) (h : many E svs xss ∈ L) (hr : rows E sv.1 xs ∈ L) : St (many E (svs ++ [sv]) (xss ++ [xs]) :: L) w := by
  have hl := many_len hs h
  have key : ∀ (i : Nat) (sv' : SV) (xs' : List α), (svs ++ [sv])[i]? = some sv' → (xss ++ [xs])[i]? = some xs' → (svs[i]? = some sv' ∧ xss[i]? = some xs') ∨ (sv' = sv ∧ xs' = xs) := by
    intro i sv' xs' h1 h2
    rw [List.getElem?_append] at h1 h2
    by_cases hi : i < svs.length
    · rw [if_pos hi] at h1
      rw [if_pos (by omega)] at h2
      exact .inl ⟨h1, h2⟩
    · rw [if_neg hi] at h1
      rw [if_neg (by omega)] at h2
      cases hk : i - svs.length with
      | zero => rw [hk] at h1; rw [show i - xss.length = 0 by omega] at h2; simp at h1 h2; exact .inr ⟨h1.symm, h2.symm⟩
      | succ n => rw [hk] at h1; simp at h1
  refine hs.ro ⟨by simp [hl], fun i sv' xs' h1 h2 => ?_⟩ rfl fun k ⟨i, sv', xs', h1, h2, h3⟩ => ?_
  · rcases key i sv' xs' h1 h2 with ⟨a, b⟩ | ⟨rfl, rfl⟩
    · exact (hs.get h).2 i sv' xs' a b
    · exact hs.get hr
  · rcases key i sv' xs' h1 h2 with ⟨a, b⟩ | ⟨rfl, rfl⟩
    · exact ⟨_, h, rfl, i, sv', xs', a, b, h3⟩
    · exact ⟨_, hr, rfl, h3⟩
theorem St.ror {E : Enc α} {e : TypeId} {v : Value} {xs : List α} {L L' : List Item} (hs : St L w) (hu : Upd (own E e v xs) (rows E v xs) L L') : St L' w := hs.fix hu
/-! ### Iterators -/
/-- An iterator of n values, of which El i v tells the i-th; it needs Φ. -/
def Iter1 (P : Program) (cl : Value) (Φ : Nat → List Item) (n : Nat) (El : Nat → Value → List Item) : Prop :=
  ∀ (σ : Type) (Lb : Nat → σ → List Item) (yv : Value) (K : World → Prop) (a : σ) (w : World),
    (∀ i a v w, i < n → St (El i v ++ (Φ i ++ Lb i a)) w → CallN P (callS yv #[v]) (fun b w' => (b = .bool true ∧ ∃ a', St (Φ i ++ Lb (i + 1) a') w') ∨ (b = .bool false ∧ K w')) w) →
    (∀ a w, St (Φ n ++ Lb n a) w → K w) → St (Φ 0 ++ Lb 0 a) w → CallN P (callS cl #[yv]) (fun _ w => K w) w
/-- Two values a time. -/
def Iter2 (P : Program) (cl : Value) (Φ : Nat → List Item) (n : Nat) (El : Nat → Value → Value → List Item → Prop) : Prop :=
  ∀ (σ : Type) (Lb : Nat → σ → List Item) (yv : Value) (K : World → Prop) (a : σ) (w : World),
    (∀ i a v v' Le w, i < n → El i v v' Le → St (Le ++ (Φ i ++ Lb i a)) w → CallN P (callS yv #[v, v']) (fun b w' => (b = .bool true ∧ ∃ a', St (Φ i ++ Lb (i + 1) a') w') ∨ (b = .bool false ∧ K w')) w) →
    (∀ a w, St (Φ n ++ Lb n a) w → K w) → St (Φ 0 ++ Lb 0 a) w → CallN P (callS cl #[yv]) (fun _ w => K w) w
theorem st_putObj {L L' : List Item} {l : Nat} {o o' : Obj} (hs : St L w) (hu : Upd (obj l o) (obj l o') L L') : St L' (w.putObj l o') :=
  hs.upd hu (Ext.putObj w l o') (fun k _ hk => ⟨rfl, hk⟩) (putObj_at (hs.get hu.mem)) (fun _ => rfl) fun k hk => .inl hk
/-- One call of yield, with one value. -/
theorem yield1 {l N p : Nat} {r0 : Go.Loop} {x : Value} {e : Env} {cv : List TypeId} {H : Hints} {K : Value → World → Prop} {L : List Item} (hm : P.follows .mixedOrders = true) (hs : St L w) (hl : obj l (.loop r0) ∈ L) (hst : r0.state = .ready) (hps : r0.params = #[p])
    (hN : r0.tmps.size = N) (he : envOf { tmps := r0.tmps, defers := [] } = e) (hp : p < N) (okA : codeOk cv H r0.assign = true) (okB : codeOk cv H r0.body = true)
    (h : pt P H (some l) N r0.assign (fun x e1 ds w1 => x = .normal ∧ ds = [] ∧ ∃ r1 : Go.Loop, w1.heap[l]? = some (.loop r1) ∧ r1.state = .ready ∧ pt P H (some l) N r0.body (roundQ l K) e1 [] (w1.putObj l (.loop { r1 with state := .busy }))) (upd e p x) [] w) :
    CallN P (callS (.func (.yield l) #[] #[]) #[x]) K w := yield_ok hm (hs.get hl) hst hps hN he hp okA okB h
theorem yield_ok2 {l N p q : Nat} {r0 : Go.Loop} {x y : Value} {e : Env} {cv : List TypeId} {H : Hints} {K : Value → World → Prop} (hm : P.follows .mixedOrders = true) (hl : w.heap[l]? = some (.loop r0)) (hst : r0.state = .ready) (hps : r0.params = #[p, q])
    (hN : r0.tmps.size = N) (he : envOf { tmps := r0.tmps, defers := [] } = e) (hp : p < N) (hq : q < N) (okA : codeOk cv H r0.assign = true) (okB : codeOk cv H r0.body = true)
    (h : pt P H (some l) N r0.assign (fun x e1 ds w1 => x = .normal ∧ ds = [] ∧ ∃ r1 : Go.Loop, w1.heap[l]? = some (.loop r1) ∧ r1.state = .ready ∧ pt P H (some l) N r0.body (roundQ l K) e1 [] (w1.putObj l (.loop { r1 with state := .busy }))) (upd (upd e p x) q y) [] w) :
    CallN P (callS (.func (.yield l) #[] #[]) #[x, y]) K w := by
  have hy := run_yield (P := P) (args := #[x, y]) hl (by rw [hps]; rfl)
  have e1 : (callS (.func (.yield l) #[] #[]) #[x, y]).run P w = (Instr.yield l #[x, y]).run P w := rfl
  unfold CallN
  rw [e1, hy]
  have hz : r0.params.zip #[x, y] = #[(p, x), (q, y)] := by rw [hps]; simp
  have hf : (r0.params.zip #[x, y]).foldl (fun tmps (q : Tmp × Value) => tmps.setIfInBounds q.1 q.2) r0.tmps = (r0.tmps.setIfInBounds p x).setIfInBounds q y := by rw [hz]; simp
  show RoundIn Fence.wide 0 P l r0.fn ((r0.params.zip #[x, y]).foldl (fun tmps (q : Tmp × Value) => tmps.setIfInBounds q.1 q.2) r0.tmps) r0.assign r0.body w _
  rw [hf]
  refine roundIn_of_wpIn (F := Fence.wide) (n := 0) trivial ?_
  refine pt_sound (r := some l) (n := 0) hm r0.assign _ _ (upd (upd e p x) q y) [] w _ okA (fun x e' ds' w' a' ha hq => ?_) ⟨?_, rfl, ?_⟩ h
  · obtain ⟨rfl, rfl, r1, h1, h2, h3⟩ := hq
    refine ⟨_, run_beginRound h1 h2, ?_⟩
    refine pt_sound (r := some l) (n := 0) hm r0.body _ _ _ [] _ _ okB (fun x e2 ds2 w2 a2 ha2 hq2 => ?_) ha h3
    obtain ⟨r2, k1, k2⟩ := hq2
    cases x with
    | normal => exact ⟨_, _, run_endRound none k1, _, rfl, k2⟩
    | ret => exact ⟨_, _, run_endRound (some .ret) k1, _, rfl, k2⟩
    | exit id => exact ⟨_, _, run_endRound (some (.exit id)) k1, _, rfl, k2⟩
    | goto t => exact k2.elim
    | panic c => exact k2.elim
    | outgrown => exact k2.elim
  · simpa using hN
  · rw [← he, ← envOf_set r0.tmps p x (by omega)]
    exact envOf_set _ q y (by simp; omega)
/-- The loop's record, while a round runs. -/
abbrev busyR (r0 : Go.Loop) : Go.Loop := { r0 with state := .busy }
/-- What a round ends in. -/
def rndR (l d : Nat) (r0 : Go.Loop) (J : World → Prop) (Q : QQ) (e : Env) (ds : List Nat) : QQ := fun x _ _ w =>
  match x with
  | .normal => J w
  | .ret => ∃ L', St (obj l (.loop (busyR r0)) :: obj d (.deferred (some [])) :: L') w ∧ ∀ w'', St (obj d (.deferred (some [])) :: L') w'' → Q .ret e (d :: ds) w''
  | .exit id => ∃ L', St (obj l (.loop (busyR r0)) :: obj d (.deferred (some [])) :: L') w ∧ ∀ w'', St (obj d (.deferred (some [])) :: L') w'' → Q (.exit id) e (d :: ds) w''
  | _ => False
theorem perm2 {x y : Item} {A B : List Item} : (A ++ (x :: y :: B)).Perm (x :: y :: (A ++ B)) :=
  (List.perm_middle (a := x) (l₁ := A) (l₂ := y :: B)).trans (List.Perm.cons x (List.perm_middle (a := y) (l₁ := A) (l₂ := B)))
theorem perm2c {x y : Item} {A B : List Item} : (A ++ (x :: y :: B)).Perm (x :: y :: (B ++ A)) := perm2.trans (List.Perm.cons x (List.Perm.cons y List.perm_append_comm))
theorem rnd_end {l d : Nat} {r0 : Go.Loop} {J : World → Prop} {Kt Kf : World → Prop} {Q : QQ} {e : Env} {ds : List Nat} {x : Exit} {e' : Env} {ds' : List Nat} {w : World} (h1 : r0.state = .ready) (h2 : r0.pending = none)
    (hJ : J w → ∃ L', St (obj l (.loop (busyR r0)) :: L') w ∧ ∀ w', St (obj l (.loop r0) :: L') w' → Kt w')
    (hf : ∀ w3, (∃ r : Go.Loop, w3.heap[l]? = some (.loop r) ∧ r.state ≠ .busy ∧ jumpQ Q e (d :: ds) (w3.putObj l (.loop { r with state := .exhausted })) r.pending) → Kf w3)
    (h : rndR l d r0 J Q e ds x e' ds' w) : roundQ l (fun b w' => (b = .bool true ∧ Kt w') ∨ (b = .bool false ∧ Kf w')) x e' ds' w := by
  cases x with
  | normal =>
    obtain ⟨L', hs, hk⟩ := hJ h
    have hb : w.heap[l]? = some (.loop (busyR r0)) := hs.get (x := obj l (.loop (busyR r0))) (List.Mem.head _)
    refine ⟨busyR r0, hb, .inl ⟨rfl, hk _ ?_⟩⟩
    have he : ({ busyR r0 with state := .ready, pending := none } : Go.Loop) = r0 := rec_back h1 h2
    rw [he]
    exact st_putObj hs .here
  | ret =>
    obtain ⟨L', hs, hk⟩ := h
    have hb : w.heap[l]? = some (.loop (busyR r0)) := hs.get (x := obj l (.loop (busyR r0))) (List.Mem.head _)
    refine ⟨busyR r0, hb, .inr ⟨rfl, hf _ ⟨{ busyR r0 with state := .done, pending := some .ret }, putObj_at hb, by simp, ?_⟩⟩⟩
    have hs1 := st_putObj (o' := .loop { busyR r0 with state := .done, pending := some .ret }) hs .here
    have hs2 := st_putObj (o' := .loop { ({ busyR r0 with state := .done, pending := some .ret } : Go.Loop) with state := .exhausted }) hs1 .here
    exact hk _ hs2.drop
  | exit id =>
    obtain ⟨L', hs, hk⟩ := h
    have hb : w.heap[l]? = some (.loop (busyR r0)) := hs.get (x := obj l (.loop (busyR r0))) (List.Mem.head _)
    refine ⟨busyR r0, hb, .inr ⟨rfl, hf _ ⟨{ busyR r0 with state := .done, pending := some (.exit id) }, putObj_at hb, by simp, ?_⟩⟩⟩
    have hs1 := st_putObj (o' := .loop { busyR r0 with state := .done, pending := some (.exit id) }) hs .here
    have hs2 := st_putObj (o' := .loop { ({ busyR r0 with state := .done, pending := some (.exit id) } : Go.Loop) with state := .exhausted }) hs1 .here
    exact hk _ hs2.drop
  | goto t => exact h.elim
  | panic c => exact h.elim
  | outgrown => exact h.elim
/-- A range over an iterator of one value: what a round owes, and what comes behind. -/
theorem range1 {N p : Nat} {f : FuncId} {first captured : List Value} {asg body : Code} {Q : QQ} {e : Env} {ds : List Nat} {cv : List TypeId} {H : Hints} {Φ : Nat → List Item} {n : Nat} {El : Nat → Value → List Item} {σ : Type} (Lb : Nat → σ → List Item) (a0 : σ) (fA : Env → Env)
    (hit : Iter1 P (.func (.func f) first.toArray captured.toArray) Φ n El) (hm : P.follows .mixedOrders = true) (hs : St (Lb 0 a0 ++ Φ 0) w) (hb : hasBody P f = true) (hp : p < N) (okA : codeOk cv H asg = true) (okB : codeOk cv H body = true)
    (hasg : ∀ (l : Nat) (Q' : QQ) (e : Env) (w : World), Q' .normal (fA e) [] w → pt P H (some l) N asg Q' e [] w)
    (hround : ∀ (l d : Nat) (r0 : Go.Loop) (i : Nat) (a : σ) (v : Value) (w : World), i < n → St (obj l (.loop (busyR r0)) :: obj d (.deferred (some [])) :: (El i v ++ (Lb i a ++ Φ i))) w →
      pt P H (some l) N body (rndR l d r0 (fun w => ∃ a', St (obj l (.loop (busyR r0)) :: obj d (.deferred (some [])) :: (Lb (i + 1) a' ++ Φ i)) w) Q e ds) (fA (upd e p v)) [] w)
    (hend : ∀ (d : Nat) (a : σ) (w : World), St (obj d (.deferred (some [])) :: (Lb n a ++ Φ n)) w → Q .normal e (d :: ds) w) :
    RangeF P none N (.func (.func f) first.toArray captured.toArray) #[p] asg body Q e ds w := by
  refine RangeF_in hb fun r0 w1 a1 a2 a3 a4 a5 a6 a7 x1 z1 hD hL => ?_
  subst a6; subst a7
  generalize hl : w.heap.size + 1 = l at *
  generalize hd : w.heap.size = d at *
  have hs0 : St (obj d (.deferred (some [])) :: (Lb 0 a0 ++ Φ 0)) w1 := hs.new x1 hD fun k hk => by rw [show k = d from hk, hd]; exact Nat.le_refl _
  have hs1 : St (obj l (.loop r0) :: obj d (.deferred (some [])) :: (Lb 0 a0 ++ Φ 0)) w1 := hs0.add hL fun y hy _ k h1 h2 => by
    have hk : k = l := h1
    rcases List.mem_cons.1 hy with rfl | hy
    · have : k = d := h2
      omega
    · have := y.lt (hs.1 y hy) h2
      omega
  have back : ∀ {A B : List Item} {w : World}, St (A ++ (obj l (.loop r0) :: obj d (.deferred (some [])) :: B)) w → St (obj l (.loop r0) :: obj d (.deferred (some [])) :: (B ++ A)) w := fun h => h.perm perm2c
  have forth : ∀ {A B : List Item} {w : World}, St (obj l (.loop r0) :: obj d (.deferred (some [])) :: (B ++ A)) w → St (A ++ (obj l (.loop r0) :: obj d (.deferred (some [])) :: B)) w := fun h => h.perm perm2c.symm
  refine hit σ (fun i a => obj l (.loop r0) :: obj d (.deferred (some [])) :: Lb i a) _ _ a0 w1 ?_ ?_ (forth hs1)
  · intro i a v w hi hs
    have hs2 : St (obj l (.loop r0) :: obj d (.deferred (some [])) :: (El i v ++ (Lb i a ++ Φ i))) w := hs.perm (((perm2c (A := Φ i)).append_left _).trans perm2)
    have hlw : w.heap[l]? = some (.loop r0) := hs2.get (x := obj l (.loop r0)) (List.Mem.head _)
    refine yield_ok (p := p) (N := N) (H := H) (cv := cv) hm hlw a1 a3 a4 a5 hp okA okB ?_
    refine hasg _ _ _ _ ⟨rfl, rfl, r0, hlw, a1, ?_⟩
    have hs3 := st_putObj (o' := .loop (busyR r0)) hs2 .here
    refine pt_stays r0.body _ _ _ _ _ (fun x e' ds' w' _ hq => ?_) (hround l d r0 i a v _ hi hs3)
    refine rnd_end (Kt := fun w' => ∃ a', St (Φ i ++ (obj l (.loop r0) :: obj d (.deferred (some [])) :: Lb (i + 1) a')) w') a1 a2 (fun ⟨a', hJ⟩ => ⟨_, hJ, fun w' hw' => ⟨a', forth hw'⟩⟩) (fun w3 h => h) hq
  · intro a w hs
    have hs2 := back hs
    refine ⟨r0, hs2.get (x := obj l (.loop r0)) (List.Mem.head _), by rw [a1]; simp, ?_⟩
    have hs3 := (st_putObj (o' := .loop { r0 with state := .exhausted }) hs2 .here).drop
    revert hs3
    generalize w.putObj l _ = w3
    intro hs3
    rw [a2]
    exact hend d a _ hs3
/-- A range over an iterator of two values: what a round owes, and what comes behind. -/
theorem range2 {N p q : Nat} {f : FuncId} {first captured : List Value} {asg body : Code} {Q : QQ} {e : Env} {ds : List Nat} {cv : List TypeId} {H : Hints} {Φ : Nat → List Item} {n : Nat} {El : Nat → Value → Value → List Item → Prop} {σ : Type} (Lb : Nat → σ → List Item) (a0 : σ) (fA : Env → Env)
    (hit : Iter2 P (.func (.func f) first.toArray captured.toArray) Φ n El) (hm : P.follows .mixedOrders = true) (hs : St (Lb 0 a0 ++ Φ 0) w) (hb : hasBody P f = true) (hp : p < N) (hq : q < N) (okA : codeOk cv H asg = true) (okB : codeOk cv H body = true)
    (hasg : ∀ (l : Nat) (Q' : QQ) (e : Env) (w : World), Q' .normal (fA e) [] w → pt P H (some l) N asg Q' e [] w)
    (hround : ∀ (l d : Nat) (r0 : Go.Loop) (i : Nat) (a : σ) (v v' : Value) (Le : List Item) (w : World), i < n → El i v v' Le → St (obj l (.loop (busyR r0)) :: obj d (.deferred (some [])) :: (Le ++ (Lb i a ++ Φ i))) w →
      pt P H (some l) N body (rndR l d r0 (fun w => ∃ a', St (obj l (.loop (busyR r0)) :: obj d (.deferred (some [])) :: (Lb (i + 1) a' ++ Φ i)) w) Q e ds) (fA (upd (upd e p v) q v')) [] w)
    (hend : ∀ (d : Nat) (a : σ) (w : World), St (obj d (.deferred (some [])) :: (Lb n a ++ Φ n)) w → Q .normal e (d :: ds) w) :
    RangeF P none N (.func (.func f) first.toArray captured.toArray) #[p, q] asg body Q e ds w := by
  refine RangeF_in hb fun r0 w1 a1 a2 a3 a4 a5 a6 a7 x1 z1 hD hL => ?_
  subst a6; subst a7
  generalize hl : w.heap.size + 1 = l at *
  generalize hd : w.heap.size = d at *
  have hs0 : St (obj d (.deferred (some [])) :: (Lb 0 a0 ++ Φ 0)) w1 := hs.new x1 hD fun k hk => by rw [show k = d from hk, hd]; exact Nat.le_refl _
  have hs1 : St (obj l (.loop r0) :: obj d (.deferred (some [])) :: (Lb 0 a0 ++ Φ 0)) w1 := hs0.add hL fun y hy _ k h1 h2 => by
    have hk : k = l := h1
    rcases List.mem_cons.1 hy with rfl | hy
    · have : k = d := h2
      omega
    · have := y.lt (hs.1 y hy) h2
      omega
  have back : ∀ {A B : List Item} {w : World}, St (A ++ (obj l (.loop r0) :: obj d (.deferred (some [])) :: B)) w → St (obj l (.loop r0) :: obj d (.deferred (some [])) :: (B ++ A)) w := fun h => h.perm perm2c
  have forth : ∀ {A B : List Item} {w : World}, St (obj l (.loop r0) :: obj d (.deferred (some [])) :: (B ++ A)) w → St (A ++ (obj l (.loop r0) :: obj d (.deferred (some [])) :: B)) w := fun h => h.perm perm2c.symm
  refine hit σ (fun i a => obj l (.loop r0) :: obj d (.deferred (some [])) :: Lb i a) _ _ a0 w1 ?_ ?_ (forth hs1)
  · intro i a v v' Le w hi hel hs
    have hs2 : St (obj l (.loop r0) :: obj d (.deferred (some [])) :: (Le ++ (Lb i a ++ Φ i))) w := hs.perm (((perm2c (A := Φ i)).append_left _).trans perm2)
    have hlw : w.heap[l]? = some (.loop r0) := hs2.get (x := obj l (.loop r0)) (List.Mem.head _)
    refine yield_ok2 (p := p) (q := q) (N := N) (H := H) (cv := cv) hm hlw a1 a3 a4 a5 hp hq okA okB ?_
    refine hasg _ _ _ _ ⟨rfl, rfl, r0, hlw, a1, ?_⟩
    have hs3 := st_putObj (o' := .loop (busyR r0)) hs2 .here
    refine pt_stays r0.body _ _ _ _ _ (fun x e' ds' w' _ hq => ?_) (hround l d r0 i a v v' Le _ hi hel hs3)
    refine rnd_end (Kt := fun w' => ∃ a', St (Φ i ++ (obj l (.loop r0) :: obj d (.deferred (some [])) :: Lb (i + 1) a')) w') a1 a2 (fun ⟨a', hJ⟩ => ⟨_, hJ, fun w' hw' => ⟨a', forth hw'⟩⟩) (fun w3 h => h) hq
  · intro a w hs
    have hs2 := back hs
    refine ⟨r0, hs2.get (x := obj l (.loop r0)) (List.Mem.head _), by rw [a1]; simp, ?_⟩
    have hs3 := (st_putObj (o' := .loop { r0 with state := .exhausted }) hs2 .here).drop
    revert hs3
    generalize w.putObj l _ = w3
    intro hs3
    rw [a2]
    exact hend d a _ hs3
/-- What was deferred: nothing. -/
theorem RetM_st {rs : Array ResultVar} {e : Env} {d : Nat} {ds : List Nat} (hs : St (obj d (.deferred (some [])) :: L) w) (h : ∀ w, St L w → RetM P rs K e ds w) : RetM P rs K e (d :: ds) w :=
  ⟨_, run_take0 (hs.get (x := obj d (.deferred (some []))) (List.Mem.head _)), h _ (st_putObj (o' := .deferred none) hs .here).drop⟩
end Go.Px
end
section
set_option linter.unusedVariables false
set_option linter.unusedSimpArgs false
set_option linter.unusedVariables false
set_option linter.unusedSimpArgs false
set_option maxRecDepth 20000
namespace Go.Px
open Go Go.RowKit
variable {α β : Type} {P : Program} {L L2 : List Item} {w : World} {K : Value → World → Prop}
theorem St.hasR {b : Nat} {e : TypeId} {cs : List Value} (h : St L w) (hb : (box b e cs).r ∈ L) : Has w b e cs := h.get hb
/-- Some cells that are only read, as a row. -/
theorem row_of_r {E : Enc α} {b c : Nat} {e : TypeId} {cs : List Value} {xs : List α} (hs : St L w) (h : (box b e cs).r ∈ L) (hx : cs = xs.flatMap E.f) (hc : xs.length ≤ c) : St (rows E (SL b 0 xs.length c) xs :: L) w := by
  subst hx
  refine hs.ro ⟨E.length xs, .inr ⟨b, 0, c, rfl, hc, Has.row (e := e) (hs.get h)⟩⟩ rfl fun k hk => ⟨_, h, rfl, ?_⟩
  have := hk.1
  simp only [Value.ownBlock, Option.some.injEq] at this
  exact this.symm
theorem flat_one {γ : Type} (g : γ → Value) (xs : List γ) : xs.flatMap (fun x => [g x]) = xs.map g := by
  induction xs with
  | nil => rfl
  | cons x xs ih => simp [List.flatMap_cons, ih]
theorem row_of_id {b : Nat} {e : TypeId} {x : Id} (hs : St L w) (h : (box b e (EId.f x)).r ∈ L) : St (rows EY (SL b 0 32 32) x.l :: L) w := by
  have := row_of_r (E := EY) (c := 32) (xs := x.l) hs h (flat_one Y x.l).symm (by rw [x.len]; exact Nat.le_refl _)
  rwa [x.len] at this
/-- The whole of an array. -/
theorem Yd.slA {t n b k : Nat} [ha : ArrT P t n k] : Yd P L (Instr.sliceAt t (A b 0) none none none) (SL b 0 n n) := .of fun w => by
  have h := ha.h
  unfold arrN at h
  split at h
  · rename_i k' e hd
    simp only [Bool.and_eq_true] at h
    have hk := Nat.eq_of_beq_eq_true h.1
    have h2 := h.2
    split at h2
    · rename_i i hi
      subst hk
      unfold Instr.sliceAt
      rw [Sem.run_bind, run_under hd]
      simp only [Result.andThen, Instr.sureAddr, Sem.run_bind, pure, Sem.run]
      simp [Instr.sliceBounds, Sem.run_bind, run_sizeT hi rfl, Result.andThen, pure, Sem.run, add_off]
    · cases h2
  · cases h
theorem fill_rows {E : Enc α} {place : Nat → Option (Nat × Nat)} (hp : ∀ j, place j = some (j * E.k, E.k)) : ∀ (xs : List α) (i : Nat) (pre post : List Value), pre.length = i * E.k → post.length = xs.length * E.k →
    Instr.fill place (pre ++ post).toArray ((xs.zipIdx i).map fun p => (p.2, E.val p.1)) = some (pre ++ xs.flatMap E.f).toArray
  | [], i, pre, post, h1, h2 => by
    have : post = [] := List.eq_nil_of_length_eq_zero (by simpa using h2)
    subst this
    simp [fill_nil]
  | x :: xs, i, pre, post, h1, h2 => by
    have hc : (E.val x).cells.size = E.k := by rw [← Array.length_toList, E.cells, E.len]
    have h3 : (x :: xs).length * E.k = xs.length * E.k + E.k := by rw [List.length_cons, Nat.add_mul, Nat.one_mul]
    rw [List.zipIdx_cons, List.map_cons, fill_cons (hp i) hc (by rw [List.length_append]; omega)]
    have e1 : (pre ++ post).take (i * E.k) ++ (E.val x).cells.toList ++ (pre ++ post).drop (i * E.k + E.k) = (pre ++ E.f x) ++ post.drop E.k := by
      rw [E.cells, ← h1, List.take_left, ← List.drop_drop, List.drop_left]
    rw [e1, fill_rows hp xs (i + 1) (pre ++ E.f x) (post.drop E.k) (by rw [List.length_append, E.len, Nat.add_mul, Nat.one_mul]; omega) (by rw [List.length_drop]; omega)]
    simp
/-- A row of some elements. -/
theorem st_rowL {E : Enc α} {t e bytes n : Nat} {parts : Array (Nat × Value)} (xs : List α) (hs : St L w) (hk : ∀ v' w', St (own E e v' xs :: L) w' → v'.ownBlock ≠ none → K v' w') (hp : parts.toList = (xs.zipIdx 0).map fun p => (p.2, E.val p.1) := by rfl) (hn : xs.length = n := by rfl)
    (ht : grows P t E.k e bytes = true := by kernel_rfl) (hb : n * E.k ≤ 16777216 := by decide) : Do P (Instr.buildSlice t n parts) K w := by
  subst hn
  have hb2 : xs.length ≤ 9223372036854775807 := by
    have h1 : xs.length ≤ xs.length * E.k := Nat.le_mul_of_pos_right _ E.pos
    omega
  refine Do_row (size := E.k) (e := e) (bytes := bytes) (xs.flatMap E.f) ?_ (E.length xs) (fun v' w' h g hv => hk v' w' (hs.own1 g h) (by rw [hv]; simp)) ht hb hb2
  obtain ⟨hu, i, z, hi, hsi, hby, hz, hzs⟩ := grows_spec ht
  unfold rowOf
  simp only [hu, hi, hz, hp]
  have h1 := fill_rows (E := E) (place := fun j => some (j * i.size, i.size)) (fun j => by rw [hsi]) xs 0 [] ((Array.range (xs.length * i.size)).map (z.cells[· % z.cells.size]!)).toList (by simp) (by simp [hsi])
  rw [List.nil_append, List.nil_append, Array.toArray_toList] at h1
  exact h1
theorem Yd.capS {t ty : Nat} {a : Option Addr} {n c : Nat} {cs : Array Bool} (ht : lenT P t = true := by kernel_rfl) : Yd P L (builtin .cap #[t] ty cs #[.slice a n c]) (.value (I (c : Nat))) := .of fun w => by
  unfold lenT at ht
  split at ht
  · rename_i e hd
    simp [builtin, Builtin.cap_, Sem.run_bind, run_under hd, Result.andThen, pure, Sem.run, goInt]
  · cases ht
theorem Yd.shrW (t : TypeId) (x k : Nat) {yk : IntKind} {s : Int} (hs : s = k := by omega) (hk : k ≤ 63 := by omega) : Yd P L (binOp .shr t (W x) (.int yk s)) (W (x / 2 ^ k)) := .of fun w => by
  subst hs
  rw [run_shr _ .u64 yk _ _ (by omega)]
  rw [show Min.min (k : Int).toNat IntKind.u64.bits = k by simp only [IntKind.bits]; omega, Int.fdiv_eq_ediv_of_nonneg _ (Int.pow_nonneg (by decide))]
  rfl
theorem Yd.max (ts : Array TypeId) (ty : Nat) (cs : Array Bool) (k : IntKind) (a b : Int) : Yd P L (builtin .max ts ty cs #[.int k a, .int k b]) (.value (.int k (Max.max a b))) := .of fun w => by
  have e : (builtin .max ts ty cs #[.int k a, .int k b]).run P w = .ok (.value (.int k (if a < b then b else a))) w := rfl
  rw [e]
  congr 3
  split <;> omega
/-- Something that is so. -/
def fact (p : Prop) : Item where
  excl := false
  foot _ := False
  holds _ := p
  stable h _ _ := h
  lt _ h := h.elim
theorem St.fact {p : Prop} (hs : St L w) (h : p) : St (fact p :: L) w := hs.ro h rfl fun k hk => hk.elim
theorem St.isFact {p : Prop} (hs : St L w) (h : Go.Px.fact p ∈ L) : p := hs.get h
/-! ### Bits -/
theorem bits64 (k : IntKind) (op : BinOp) (f : Nat → Nat → Nat) {a b : Nat} (ha : a < 2 ^ 63) (hb : b < 2 ^ 63) (hk : k = .i64 ∨ k = .u64) (hf : (op = .xor ∧ f = fun a b => a ^^^ b) ∨ (op = .and ∧ f = fun a b => a &&& b) ∨ (op = .or ∧ f = fun a b => a ||| b)) : bits op k a b = ((f a b : Nat) : Int) := by
  have h63 : f a b < 2 ^ 63 := by
    rcases hf with ⟨_, rfl⟩ | ⟨_, rfl⟩ | ⟨_, rfl⟩
    · exact Nat.xor_lt_two_pow ha hb
    · exact Nat.and_lt_two_pow _ hb
    · exact Nat.or_lt_two_pow ha hb
  have ea : (BitVec.ofInt k.bits (a : Int)).toNat = a := by
    have hb64 : k.bits = 64 := by rcases hk with rfl | rfl <;> rfl
    rw [BitVec.ofInt_natCast, BitVec.toNat_ofNat, hb64, Nat.mod_eq_of_lt (by omega)]
  have eb : (BitVec.ofInt k.bits (b : Int)).toNat = b := by
    have hb64 : k.bits = 64 := by rcases hk with rfl | rfl <;> rfl
    rw [BitVec.ofInt_natCast, BitVec.toNat_ofNat, hb64, Nat.mod_eq_of_lt (by omega)]
  have hw : k.wrap ((f a b : Nat) : Int) = ((f a b : Nat) : Int) := by
    rcases hk with rfl | rfl
    · exact wrap_i64 (by omega) (by omega)
    · exact wrap_u64 (by omega) (by omega)
  rw [← hw]
  unfold bits
  rcases hf with ⟨rfl, rfl⟩ | ⟨rfl, rfl⟩ | ⟨rfl, rfl⟩
  all_goals
    simp only [BitVec.toNat_xor, BitVec.toNat_and, BitVec.toNat_or, ea, eb]
theorem Yd.xorI (t : TypeId) (a b : Nat) (ha : a < 9223372036854775808 := by omega) (hb : b < 9223372036854775808 := by omega) : Yd P L (binOp .xor t (I (a : Nat)) (I (b : Nat))) (I ((a ^^^ b : Nat))) := .of fun w => by
  rw [run_num2 .xor t .i64 a b (by simp)]
  simp only [num2]
  rw [bits64 .i64 .xor (fun a b => a ^^^ b) ha hb (.inl rfl) (.inl ⟨rfl, rfl⟩)]
theorem Yd.andI (t : TypeId) (a b : Nat) (ha : a < 9223372036854775808 := by omega) (hb : b < 9223372036854775808 := by omega) : Yd P L (binOp .and t (I (a : Nat)) (I (b : Nat))) (I ((a &&& b : Nat))) := .of fun w => by
  rw [run_num2 .and t .i64 a b (by simp)]
  simp only [num2]
  rw [bits64 .i64 .and (fun a b => a &&& b) ha hb (.inl rfl) (.inr (.inl ⟨rfl, rfl⟩))]
theorem xor_one (i : Nat) : i ^^^ 1 = if i % 2 = 0 then i + 1 else i - 1 := by
  have h1 : (i ^^^ 1) / 2 = i / 2 := by rw [Nat.xor_div_two]; simp
  have h2 : (i ^^^ 1) % 2 = (i + 1) % 2 := by
    have h3 : (i ^^^ 1) % 2 ^ 1 = (i % 2 ^ 1) ^^^ (1 % 2 ^ 1) := Nat.xor_mod_two_pow
    rw [show (2 : Nat) ^ 1 = 2 from rfl] at h3
    rw [h3]
    rcases Nat.mod_two_eq_zero_or_one i with h | h <;> rw [h] <;> simp <;> omega
  split <;> omega
/-- The number that a box holds. -/
def cellN (w : World) (b : Nat) : Nat := match w.cell? ⟨b, 0, none⟩ with
  | some v => numOf v
  | none => 0
theorem cellN_box {b : Nat} {e : TypeId} {v : Value} {cs : List Value} (hs : St L w) (h : box b e (v :: cs) ∈ L) : cellN w b = numOf v := by
  have h1 : Has w b e (v :: cs) := hs.get h
  have h2 := h1.cell 0
  unfold cellN
  rw [h2]
  rfl
def lenOf : Value → Nat
  | .slice _ n _ => n
  | _ => 0
theorem lenOf_row {E : Enc α} {v : Value} {xs : List α} (hs : St L w) (h : RowIn E v xs L) : lenOf v = xs.length := by
  rcases row_cases hs h with ⟨rfl, rfl⟩ | ⟨b, o, c, rfl⟩ <;> rfl
/-- Zeros in a new row. -/
theorem st_zeros {E : Enc α} {t tn ty e bytes n : Nat} {kn : IntKind} {cs : Array Bool} (hs : St L w) (h0 : 0 < n) (hk : ∀ g cap cur w, n ≤ cap → cap ≤ maxLen → cur.length = cap * E.k → St (box g e cur :: L) w → K (SL g 0 n cap) w)
    (ht : grows P t E.k e bytes = true := by kernel_rfl) (htn : intT P tn kn = true := by kernel_rfl) (hm : n * bytes ≤ 140737488355328 := by simp; omega) (hm2 : n ≤ 4000000000000 := by omega) : CallN P (builtin .append #[t, tn] ty cs #[NoSl, .int kn (n : Nat)]) K w := by
  obtain ⟨hu, i, z, hi, hsi, hby, hz, hzs⟩ := grows_spec ht
  have hr := Go.Lib.run_append_nil_zeros (P := P) w t tn ty e i z kn kn hu (intT_spec htn) hi hz n h0 (by rw [hsi]; exact E.pos) (by omega) (by rw [hby]; omega)
  have hcg := grownCap_ge w n 0 e
  refine CallN_value (v := SL w.heap.size 0 n (grownCap w n 0 e)) (w' := (w.drew).alloc (.cells (Builtin.zeroCells z.cells n ++ Builtin.zeroCells z.cells (grownCap w n 0 e - n)) e)) ?_ ?_
  · unfold builtin
    simp only [Sem.run_bind, hr, Result.andThen, pure, Sem.run]
  · refine hk _ _ (Builtin.zeroCells z.cells n ++ Builtin.zeroCells z.cells (grownCap w n 0 e - n)).toList _ hcg (grownCap_le_maxLen w n 0 e (by simp only [maxLen]; omega)) ?_ ?_
    · rw [Array.length_toList, Array.size_append, size_zeroCells, size_zeroCells, hzs, ← Nat.add_mul]
      congr 1
      omega
    · have g : Ext No w ((w.drew).alloc (.cells (Builtin.zeroCells z.cells n ++ Builtin.zeroCells z.cells (grownCap w n 0 e - n)) e)) := (Ext.drew No w).trans (Ext.alloc No _ _)
      exact hs.obj g rfl (heap_alloc_new _ _)
end Go.Px
end
section
set_option linter.unusedVariables false
set_option linter.unusedSimpArgs false
set_option linter.unusedVariables false
set_option maxRecDepth 20000
namespace Go.Px
open Go Go.Proofs
attribute [local irreducible] Do RdNow RdS RdNowN RdSN CallN Drew Draw Loop JoinC obj own rows at' old Item.r many
variable {K : Value → World → Prop} {L : List Item} {w : World}
def piecesN (m c : Nat) : Nat := (m + c - 1) / c
def pieceL {α : Type} (xs : List α) (c i : Nat) : List α := (xs.drop (i * c)).take c
theorem piecesN_lt {m c i : Nat} (hc : 0 < c) : i < piecesN m c ↔ i * c < m := by
  unfold piecesN
  rw [Nat.lt_div_iff_mul_lt hc]
  omega
theorem pieceL_len {α : Type} (xs : List α) (c i : Nat) : (pieceL xs c i).length = min c (xs.length - i * c) := by unfold pieceL; rw [List.length_take, List.length_drop]
theorem pieceL_eq {α : Type} (xs : List α) (c i : Nat) : (xs.drop (i * c)).take (i * c + min c (xs.length - i * c) - i * c) = pieceL xs c i := by
  unfold pieceL
  rw [Nat.add_sub_cancel_left, List.take_eq_take_iff, List.length_drop]
  omega
theorem chunkY_ok {v : Value} {xs : List Nat} {c : Nat} (hs : St L w) (hx : rows EY v xs ∈ L) (hc : 0 < c)
    (hk : ∀ b1 b2 w, St ((box b1 22 [v]).r :: (box b2 3 [I c]).r :: L) w → K (.func (.func 78) #[] #[A b1 0, A b2 0]) w) : CallN Tryd.prog (callS (fnv 65) #[v, I c]) K w := by
  refine CallN_fn (args := [v, I c]) (by kernel_rfl) (F65_calls ?_)
  unfold F65
  have hv := (rows_sv hs (RowIn.of hx)).2
  refine st_box hs fun b1 w hs => ?_
  rw [hv] at hs
  have hs := hs.freeze .here
  refine st_box hs fun b2 w hs => ?_
  refine JoinC_in ?_
  refine Do_y hs (Yd.bx (by repeat (first | assumption | exact List.Mem.head _ | apply List.Mem.tail))) ?_
  refine Do_y hs (Yd.lss _ _ _ _) ?_
  refine Cond_no (by omega) ?_
  refine ⟨(rfl : @Eq (List Nat) _ _), ?_⟩
  refine Do_y hs (Yd.mkf _ _ _) ?_
  exact hk b1 b2 _ ((hs.freeze .here).swap)
theorem chunkY_iter (b1 b2 : Nat) (v : Value) (xs : List Nat) (c : Nat) (hc : 0 < c) (hc2 : c ≤ 1000000) (hm : xs.length ≤ 1000000000) :
    Iter1 Tryd.prog (.func (.func 78) (#[] : Array Value) #[A b1 0, A b2 0]) (fun _ => [(box b1 22 [v]).r, (box b2 3 [I c]).r, rows EY v xs]) (piecesN xs.length c) (fun i u => [rows EY u (pieceL xs c i)]) := by
  intro σ Lb yv K a w hy hend hs
  refine CallN_closure (first := []) (captured := [A b1 0, A b2 0]) (args := [yv]) (by kernel_rfl) (F78_calls ?_)
  unfold F78
  refine Loop_in (fun e w => ∃ (i : Nat) (a : σ), i ≤ piecesN xs.length c ∧ e 4 = I (i * c : Nat) ∧ e 0 = yv ∧ e 1 = A b1 0 ∧ e 2 = A b2 0 ∧ St ([(box b1 22 [v]).r, (box b2 3 [I c]).r, rows EY v xs] ++ Lb i a) w)
    (fun e _ => (piecesN xs.length c + 1) * c - numOf (e 4)) ⟨0, a, by omega, by simp; rfl, rfl, rfl, rfl, hs⟩ ?_
  clear hs a w
  rintro e w ⟨i, a, hi, e4, e0, e1, e2, hs⟩
  obtain ⟨e, rfl⟩ := env4 e4 e0 e1 e2
  have hmm : i * c ≤ xs.length + c := by
    have h1 : i * c ≤ piecesN xs.length c * c := Nat.mul_le_mul_right _ hi
    have h2 : piecesN xs.length c * c ≤ xs.length + c - 1 := Nat.div_mul_le_self _ _
    omega
  refine JoinC_in ?_
  refine Do_y hs (Yd.bxr (by repeat (first | assumption | exact List.Mem.head _ | apply List.Mem.tail))) ?_
  refine CallN_y hs (Yd.len (RowIn.of (by repeat (first | assumption | exact List.Mem.head _ | apply List.Mem.tail)))) ?_
  refine Do_y hs (Yd.lss _ _ _ _) ?_
  refine Cond_dec (fun h => ?_) (fun h => ?_)
  · have hlt : i * c < xs.length := by omega
    have hip := (piecesN_lt hc).2 hlt
    refine ⟨(rfl : @Eq (List Nat) _ _), ?_⟩
    unfold F78_p1
    refine JoinC_in ?_
    refine Drew_st hs fun w hs => ?_
    refine RdNow_y hs (Yd.bxr (by repeat (first | assumption | exact List.Mem.head _ | apply List.Mem.tail))) ?_
    refine RdNow_y hs (Yd.bxr (by repeat (first | assumption | exact List.Mem.head _ | apply List.Mem.tail))) ?_
    refine RdNow_of_Do (st_from hs (by repeat (first | assumption | exact List.Mem.head _ | exact List.mem_append_left _ (by assumption) | apply List.Mem.tail)) (i * c) fun v16 hs => ⟨rfl, ?_⟩)
    refine RdNowN_y hs (Yd.len (RowIn.of (by repeat (first | assumption | exact List.Mem.head _ | apply List.Mem.tail)))) ?_
    refine RdNowN_y hs (Yd.min _ _ _ _ _ _) ?_
    refine Do_y hs (Yd.bxr (by repeat (first | assumption | exact List.Mem.head _ | apply List.Mem.tail))) ?_
    refine Do_y hs (Yd.add _ _ _) ?_
    refine Do_y hs (Yd.add _ _ _) ?_
    have hmin : min (c : Int) ((xs.drop (i * c)).length : Nat) = ((min c (xs.length - i * c) : Nat) : Int) := by rw [List.length_drop]; omega
    rw [hmin]
    skip
    refine st_part3 (xs := xs) hs (by repeat (first | assumption | exact List.Mem.head _ | exact List.mem_append_left _ (by assumption) | apply List.Mem.tail)) (i * c) (i * c + min c (xs.length - i * c)) fun u hs => ?_
    rw [pieceL_eq] at hs
    have hs := hs.sub (L' := [rows EY u (pieceL xs c i)] ++ ([(box b1 22 [v]).r, (box b2 3 [I c]).r, rows EY v xs] ++ Lb i a)) (by repeat (first | exact List.nil_sublist _ | exact List.Sublist.refl _ | exact List.sublist_append_left _ _ | apply List.Sublist.cons_cons | apply List.Sublist.cons))
    refine CallN_mono (fun b w' hb => ?_) (hy i a u _ hip hs)
    rcases hb with ⟨rfl, a', hs⟩ | ⟨rfl, hk⟩
    · refine Do_y hs (Yd.not _) ?_
      refine Cond_false ?_
      refine ⟨(rfl : @Eq (List Nat) _ _), ?_⟩
      refine Do_y hs (Yd.bxr (by repeat (first | assumption | exact List.Mem.head _ | apply List.Mem.tail))) ?_
      refine Do_y hs (Yd.add _ _ _) ?_
      refine ⟨(rfl : @Eq (List Nat) _ _), ?_⟩
      refine ⟨⟨i + 1, a', by omega, ?_, rfl, rfl, rfl, hs⟩, ?_⟩
      · show I (((i * c : Nat) : Int) + c) = I (((i + 1) * c : Nat) : Int)
        rw [Nat.add_mul, Nat.one_mul]
        rfl
      · show (piecesN xs.length c + 1) * c - (((i * c : Nat) : Int) + c).toNat < (piecesN xs.length c + 1) * c - ((i * c : Nat) : Int).toNat
        have h1 : i * c < (piecesN xs.length c + 1) * c := Nat.mul_lt_mul_of_pos_right (by omega) hc
        omega
    · exact Do_ok (run_not false) hk
  · skip
    have hip : i = piecesN xs.length c := by
      have h1 : ¬ i < piecesN xs.length c := fun h2 => by have := (piecesN_lt hc).1 h2; omega
      omega
    subst hip
    exact hend a _ hs
theorem chunkId_ok {v : Value} {xs : List Id} {c : Nat} (hs : St L w) (hx : rows EId v xs ∈ L) (hc : 0 < c)
    (hk : ∀ b1 b2 w, St ((box b1 31 [v]).r :: (box b2 3 [I c]).r :: L) w → K (.func (.func 72) #[] #[A b1 0, A b2 0]) w) : CallN Tryd.prog (callS (fnv 57) #[v, I c]) K w := by
  refine CallN_fn (args := [v, I c]) (by kernel_rfl) (F57_calls ?_)
  unfold F57
  have hv := (rows_sv hs (RowIn.of hx)).2
  refine st_box hs fun b1 w hs => ?_
  rw [hv] at hs
  have hs := hs.freeze .here
  refine st_box hs fun b2 w hs => ?_
  refine JoinC_in ?_
  refine Do_y hs (Yd.bx (by repeat (first | assumption | exact List.Mem.head _ | apply List.Mem.tail))) ?_
  refine Do_y hs (Yd.lss _ _ _ _) ?_
  refine Cond_no (by omega) ?_
  refine ⟨(rfl : @Eq (List Nat) _ _), ?_⟩
  refine Do_y hs (Yd.mkf _ _ _) ?_
  exact hk b1 b2 _ ((hs.freeze .here).swap)
theorem chunkId_iter (b1 b2 : Nat) (v : Value) (xs : List Id) (c : Nat) (hc : 0 < c) (hc2 : c ≤ 1000000) (hm : xs.length ≤ 1000000000) :
    Iter1 Tryd.prog (.func (.func 72) (#[] : Array Value) #[A b1 0, A b2 0]) (fun _ => [(box b1 31 [v]).r, (box b2 3 [I c]).r, rows EId v xs]) (piecesN xs.length c) (fun i u => [rows EId u (pieceL xs c i)]) := by
  intro σ Lb yv K a w hy hend hs
  refine CallN_closure (first := []) (captured := [A b1 0, A b2 0]) (args := [yv]) (by kernel_rfl) (F72_calls ?_)
  unfold F72
  refine Loop_in (fun e w => ∃ (i : Nat) (a : σ), i ≤ piecesN xs.length c ∧ e 4 = I (i * c : Nat) ∧ e 0 = yv ∧ e 1 = A b1 0 ∧ e 2 = A b2 0 ∧ St ([(box b1 31 [v]).r, (box b2 3 [I c]).r, rows EId v xs] ++ Lb i a) w)
    (fun e _ => (piecesN xs.length c + 1) * c - numOf (e 4)) ⟨0, a, by omega, by simp; rfl, rfl, rfl, rfl, hs⟩ ?_
  clear hs a w
  rintro e w ⟨i, a, hi, e4, e0, e1, e2, hs⟩
  obtain ⟨e, rfl⟩ := env4 e4 e0 e1 e2
  have hmm : i * c ≤ xs.length + c := by
    have h1 : i * c ≤ piecesN xs.length c * c := Nat.mul_le_mul_right _ hi
    have h2 : piecesN xs.length c * c ≤ xs.length + c - 1 := Nat.div_mul_le_self _ _
    omega
  refine JoinC_in ?_
  refine Do_y hs (Yd.bxr (by repeat (first | assumption | exact List.Mem.head _ | apply List.Mem.tail))) ?_
  refine CallN_y hs (Yd.len (RowIn.of (by repeat (first | assumption | exact List.Mem.head _ | apply List.Mem.tail)))) ?_
  refine Do_y hs (Yd.lss _ _ _ _) ?_
  refine Cond_dec (fun h => ?_) (fun h => ?_)
  · have hlt : i * c < xs.length := by omega
    have hip := (piecesN_lt hc).2 hlt
    refine ⟨(rfl : @Eq (List Nat) _ _), ?_⟩
    unfold F72_p1
    refine JoinC_in ?_
    refine Drew_st hs fun w hs => ?_
    refine RdNow_y hs (Yd.bxr (by repeat (first | assumption | exact List.Mem.head _ | apply List.Mem.tail))) ?_
    refine RdNow_y hs (Yd.bxr (by repeat (first | assumption | exact List.Mem.head _ | apply List.Mem.tail))) ?_
    refine RdNow_of_Do (st_from hs (by repeat (first | assumption | exact List.Mem.head _ | exact List.mem_append_left _ (by assumption) | apply List.Mem.tail)) (i * c) fun v16 hs => ⟨rfl, ?_⟩)
    refine RdNowN_y hs (Yd.len (RowIn.of (by repeat (first | assumption | exact List.Mem.head _ | apply List.Mem.tail)))) ?_
    refine RdNowN_y hs (Yd.min _ _ _ _ _ _) ?_
    refine Do_y hs (Yd.bxr (by repeat (first | assumption | exact List.Mem.head _ | apply List.Mem.tail))) ?_
    refine Do_y hs (Yd.add _ _ _) ?_
    refine Do_y hs (Yd.add _ _ _) ?_
    have hmin : min (c : Int) ((xs.drop (i * c)).length : Nat) = ((min c (xs.length - i * c) : Nat) : Int) := by rw [List.length_drop]; omega
    rw [hmin]
    skip
    refine st_part3 (xs := xs) hs (by repeat (first | assumption | exact List.Mem.head _ | exact List.mem_append_left _ (by assumption) | apply List.Mem.tail)) (i * c) (i * c + min c (xs.length - i * c)) fun u hs => ?_
    rw [pieceL_eq] at hs
    have hs := hs.sub (L' := [rows EId u (pieceL xs c i)] ++ ([(box b1 31 [v]).r, (box b2 3 [I c]).r, rows EId v xs] ++ Lb i a)) (by repeat (first | exact List.nil_sublist _ | exact List.Sublist.refl _ | exact List.sublist_append_left _ _ | apply List.Sublist.cons_cons | apply List.Sublist.cons))
    refine CallN_mono (fun b w' hb => ?_) (hy i a u _ hip hs)
    rcases hb with ⟨rfl, a', hs⟩ | ⟨rfl, hk⟩
    · refine Do_y hs (Yd.not _) ?_
      refine Cond_false ?_
      refine ⟨(rfl : @Eq (List Nat) _ _), ?_⟩
      refine Do_y hs (Yd.bxr (by repeat (first | assumption | exact List.Mem.head _ | apply List.Mem.tail))) ?_
      refine Do_y hs (Yd.add _ _ _) ?_
      refine ⟨(rfl : @Eq (List Nat) _ _), ?_⟩
      refine ⟨⟨i + 1, a', by omega, ?_, rfl, rfl, rfl, hs⟩, ?_⟩
      · show I (((i * c : Nat) : Int) + c) = I (((i + 1) * c : Nat) : Int)
        rw [Nat.add_mul, Nat.one_mul]
        rfl
      · show (piecesN xs.length c + 1) * c - (((i * c : Nat) : Int) + c).toNat < (piecesN xs.length c + 1) * c - ((i * c : Nat) : Int).toNat
        have h1 : i * c < (piecesN xs.length c + 1) * c := Nat.mul_lt_mul_of_pos_right (by omega) hc
        omega
    · exact Do_ok (run_not false) hk
  · skip
    have hip : i = piecesN xs.length c := by
      have h1 : ¬ i < piecesN xs.length c := fun h2 => by have := (piecesN_lt hc).1 h2; omega
      omega
    subst hip
    exact hend a _ hs
end Go.Px
end
section
set_option linter.unusedVariables false
set_option linter.unusedSimpArgs false
set_option linter.unusedVariables false
set_option maxRecDepth 20000
namespace Go.Px
open Go Go.Proofs
attribute [local irreducible] Do RdNow RdS RdNowN RdSN CallN Drew Draw Loop JoinC obj own rows at' old Item.r many
variable {K : Value → World → Prop} {L : List Item} {w : World}
abbrev TBB : Nat := 101
abbrev TB : Nat := 22
/-- What is collected. -/
theorem appendSeq_ok {f : FuncId} {captured : List Value} {Φ : Nat → List Item} {n : Nat} {xss : List (List Nat)} (hit : Iter1 Tryd.prog (.func (.func f) (#[] : Array Value) captured.toArray) Φ n (fun i u => [rows EY u (xss.getD i [])])) (hb : hasBody Tryd.prog f = true) (hn : xss.length = n) (hn2 : n ≤ 1000000000)
    (hs : St (L ++ Φ 0) w) (hk : ∀ v svs w, St (own ESV TB v svs :: many EY svs xss :: (L ++ Φ n)) w → K v w) : CallN Tryd.prog (callS (fnv 77) #[NoSl, .func (.func f) (#[] : Array Value) captured.toArray]) K w := by
  subst hn
  refine CallN_fn (args := [NoSl, .func (.func f) (#[] : Array Value) captured.toArray]) (by kernel_rfl) (F77_calls ?_)
  unfold F77
  refine st_box hs fun b w hs => ?_
  have hs := many_nil (E := EY) (hs.nil (E := ESV) (e := TB))
  refine JoinD_in ?_
  refine range1 (N := 13) (p := 7) (H := H77) (cv := cvTryd) (σ := Value × List SV) (fun i a => many EY a.2 (xss.take i) :: own ESV TB a.1 a.2 :: box b TBB [a.1] :: L) (NoSl, []) (fun e => upd e 5 (e 7)) hit mixedTryd hs hb (by decide) R77_0A_ok R77_0B_ok
    (fun l Q' e w h => by rw [← R77_0A_eq]; exact h) ?_ ?_
  · intro l d r0 i a v w hi hs
    obtain ⟨v1, svs⟩ := a
    rw [← R77_0B_eq]
    unfold R77_0B
    have hv := rows_sv hs (RowIn.of (E := EY) (xs := xss.getD i []) (v := v) (by repeat (first | assumption | exact List.Mem.head _ | exact List.mem_append_left _ (by assumption) | apply List.Mem.tail)))
    have hsl := many_len hs (E := EY) (svs := svs) (xss := xss.take i) (by repeat (first | assumption | exact List.Mem.head _ | exact List.mem_append_left _ (by assumption) | apply List.Mem.tail))
    rw [List.length_take] at hsl
    refine Do_y hs (Yd.bx (by repeat (first | assumption | exact List.Mem.head _ | apply List.Mem.tail))) ?_
    refine st_row1 (E := ESV) (e := TB) (bytes := 24) (x := ⟨v, hv⟩) hs fun v3 w hs _ => ?_
    have hs := hs.pull 5 rfl; try simp only [List.nil_append, List.cons_append, List.eraseIdx_cons_succ, List.eraseIdx_cons_zero] at hs
    refine st_append (E := ESV) (e := TB) (bytes := 24) (xs := svs) (ys := [⟨v, hv⟩]) hs (RowIn.own (e := TB) (by repeat (first | assumption | exact List.Mem.head _ | exact List.mem_append_left _ (by assumption) | apply List.Mem.tail))) (fun v4 w hs => ?_) (List.Perm.refl _)
    have hv4 := own_sv hs (List.Mem.head _)
    refine st_set (v := v4) hs (by repeat (first | exact Upd.here | apply Upd.there)) (fun w hs => ?_) (h1 := hv4.1) (hv := hv4.2)
    have hs := many_add (E := EY) (svs := svs) (xss := xss.take i) (sv := ⟨v, hv⟩) (xs := xss.getD i []) hs (by repeat (first | assumption | exact List.Mem.head _ | exact List.mem_append_left _ (by assumption) | apply List.Mem.tail)) (by repeat (first | assumption | exact List.Mem.head _ | exact List.mem_append_left _ (by assumption) | apply List.Mem.tail))
    have htk : xss.take i ++ [xss.getD i []] = xss.take (i + 1) := by
      rw [List.take_succ_eq_append_getElem (by omega), List.getD_eq_getElem?_getD, List.getElem?_eq_getElem (by omega)]
      rfl
    rw [htk] at hs
    have hs := hs.pull 7 rfl; have hs := hs.pull 2 rfl; have hs := hs.pull 2 rfl; have hs := hs.pull 5 rfl; have hs := hs.pull 5 rfl; try simp only [List.nil_append, List.cons_append, List.eraseIdx_cons_succ, List.eraseIdx_cons_zero] at hs
    exact ⟨(v4, svs ++ [⟨v, hv⟩]), hs.sub (by repeat (first | exact List.nil_sublist _ | exact List.Sublist.refl _ | exact List.sublist_append_left _ _ | apply List.Sublist.cons_cons | apply List.Sublist.cons))⟩
  · intro d a w hs
    obtain ⟨v1, svs⟩ := a
    refine Do_y hs (Yd.bx (by repeat (first | assumption | exact List.Mem.head _ | apply List.Mem.tail))) ?_
    refine RetM_st hs fun w hs => ?_
    rw [List.take_length] at hs
    have hs := hs.pull 0 rfl; have hs := hs.pull 1 rfl; try simp only [List.nil_append, List.cons_append, List.eraseIdx_cons_succ, List.eraseIdx_cons_zero] at hs
    exact hk v1 svs w (hs.sub (by repeat (first | exact List.nil_sublist _ | exact List.Sublist.refl _ | exact List.sublist_append_left _ _ | apply List.Sublist.cons_cons | apply List.Sublist.cons)))
theorem collect_ok {f : FuncId} {captured : List Value} {Φ : Nat → List Item} {n : Nat} {xss : List (List Nat)} (hit : Iter1 Tryd.prog (.func (.func f) (#[] : Array Value) captured.toArray) Φ n (fun i u => [rows EY u (xss.getD i [])])) (hb : hasBody Tryd.prog f = true) (hn : xss.length = n) (hn2 : n ≤ 1000000000)
    (hs : St (L ++ Φ 0) w) (hk : ∀ v svs w, St (own ESV TB v svs :: many EY svs xss :: (L ++ Φ n)) w → K v w) : CallN Tryd.prog (callS (fnv 64) #[.func (.func f) (#[] : Array Value) captured.toArray]) K w := by
  refine CallN_fn (args := [.func (.func f) (#[] : Array Value) captured.toArray]) (by kernel_rfl) (F64_calls ?_)
  unfold F64
  exact appendSeq_ok hit hb hn hn2 hs hk
/-- The leaves. -/
def splitL (bs : List Nat) : List (List Nat) := if bs = [] then [[]] else (List.range (piecesN bs.length 64)).map (pieceL bs 64)
theorem split_ok {v : Value} {bs : List Nat} (hs : St L w) (hx : rows EY v bs ∈ L) (hn : bs.length ≤ 1000000)
    (hk : ∀ v' svs w, St (own ESV TB v' svs :: many EY svs (splitL bs) :: L) w → K v' w) : CallN Tryd.prog (callS (fnv 38) #[v]) K w := by
  refine CallN_fn (args := [v]) (by kernel_rfl) (F38_calls ?_)
  unfold F38
  have hpn : piecesN bs.length 64 ≤ bs.length + 63 := by unfold piecesN; omega
  refine JoinC_in ?_
  refine CallN_y hs (Yd.len (RowIn.of (by repeat (first | assumption | exact List.Mem.head _ | apply List.Mem.tail)))) ?_
  refine Do_y hs (Yd.eq _ _ _ _ _ _) ?_
  refine Cond_dec (fun h => ?_) (fun h => ?_)
  · have h0 : bs = [] := List.eq_nil_of_length_eq_zero (by omega)
    have hs := many_add (E := EY) (svs := []) (xss := []) (sv := sv0) (xs := []) (many_nil (E := EY) hs.nilR).swap (by repeat (first | assumption | exact List.Mem.head _ | exact List.mem_append_left _ (by assumption) | apply List.Mem.tail)) (by repeat (first | assumption | exact List.Mem.head _ | exact List.mem_append_left _ (by assumption) | apply List.Mem.tail))
    refine st_row1 (E := ESV) (e := TB) (bytes := 24) (x := sv0) hs fun v3 w hs _ => ?_
    refine hk v3 [sv0] w ?_
    unfold splitL
    rw [if_pos h0]
    exact hs.sub (by repeat (first | exact List.nil_sublist _ | exact List.Sublist.refl _ | exact List.sublist_append_left _ _ | apply List.Sublist.cons_cons | apply List.Sublist.cons))
  · have h0 : bs ≠ [] := fun h0 => by rw [h0] at h; simp at h
    refine ⟨(rfl : @Eq (List Nat) _ _), ?_⟩
    refine chunkY_ok (c := 64) hs hx (by decide) fun b1 b2 w hs => ?_
    have hxs : (splitL bs).length = piecesN bs.length 64 := by unfold splitL; rw [if_neg h0]; simp
    refine collect_ok (L := L) (captured := [A b1 0, A b2 0]) (xss := splitL bs) (Φ := fun _ => [(box b1 22 [v]).r, (box b2 3 [I (64 : Nat)]).r, rows EY v bs]) (n := piecesN bs.length 64) ?_ (by kernel_rfl) hxs (by omega) ?_ fun v' svs w hs => ?_
    · have hit := chunkY_iter b1 b2 v bs 64 (by decide) (by decide) (by omega)
      intro σ Lb yv K a w hy hend hs
      refine hit σ Lb yv K a w (fun i a u w hi hs => hy i a u w hi ?_) hend hs
      have e1 : (splitL bs).getD i [] = pieceL bs 64 i := by
        unfold splitL
        rw [if_neg h0, List.getD_eq_getElem?_getD, List.getElem?_map, List.getElem?_range hi]
        rfl
      show St ([rows EY u ((splitL bs).getD i [])] ++ _) w
      rw [e1]
      exact hs
    · have hs := hs.dup (E := EY) (v := v) (xs := bs) (by repeat (first | assumption | exact List.Mem.head _ | exact List.mem_append_left _ (by assumption) | apply List.Mem.tail))
      have hs := hs.pull 0 rfl; have hs := hs.pull 2 rfl; have hs := hs.pull 2 rfl; try simp only [List.nil_append, List.cons_append, List.eraseIdx_cons_succ, List.eraseIdx_cons_zero] at hs
      exact hs.perm (List.perm_append_comm (l₁ := [_, _, _]))
    · exact hk v' svs w (hs.sub (by repeat (first | exact List.nil_sublist _ | exact List.Sublist.refl _ | exact List.sublist_append_left _ _ | apply List.Sublist.cons_cons | apply List.Sublist.cons)))
end Go.Px
end
section
set_option linter.unusedVariables false
set_option linter.unusedSimpArgs false
namespace Go.Px
/-- A number of 32 bits, n places down, round. -/
def rotr (x n : Nat) : Nat := x / 2 ^ n + x % 2 ^ n * 2 ^ (32 - n)
theorem rotr_lt {x n : Nat} (hx : x < 4294967296) (hn : n ≤ 32) : rotr x n < 4294967296 := by
  unfold rotr
  have h1 : 2 ^ n * 2 ^ (32 - n) = 4294967296 := by rw [← Nat.pow_add, show n + (32 - n) = 32 by omega]
  have h2 : x / 2 ^ n < 2 ^ (32 - n) := by
    rw [Nat.div_lt_iff_lt_mul (Nat.two_pow_pos n), Nat.mul_comm, h1]; exact hx
  have h3 : x % 2 ^ n ≤ 2 ^ n - 1 := by have := Nat.mod_lt x (Nat.two_pow_pos n); omega
  have h4 : x % 2 ^ n * 2 ^ (32 - n) ≤ (2 ^ n - 1) * 2 ^ (32 - n) := Nat.mul_le_mul_right _ h3
  rw [Nat.sub_mul, h1] at h4
  have h5 : 2 ^ (32 - n) ≤ 4294967296 := by rw [← h1]; exact Nat.le_mul_of_pos_left _ (Nat.two_pow_pos n)
  omega
end Go.Px
end
section
set_option linter.unusedVariables false
set_option linter.unusedSimpArgs false
set_option linter.unusedVariables false
set_option maxRecDepth 20000
set_option exponentiation.threshold 512
namespace Go.Px
open Go Go.Proofs
theorem bits_or32 {a b : Nat} (ha : a < 4294967296) (hb : b < 4294967296) : bits .or .u32 a b = ((a ||| b : Nat) : Int) :=
  (bits_nat .u32 32 (by decide) (fun n h0 h1 => by rw [wrap_u32]; omega) a b ha hb).2
theorem bits_and32 {a b : Nat} (ha : a < 4294967296) (hb : b < 4294967296) : bits .and .u32 a b = ((a &&& b : Nat) : Int) :=
  (bits_nat .u32 32 (by decide) (fun n h0 h1 => by rw [wrap_u32]; omega) a b ha hb).1
theorem bits_xor32 {a b : Nat} (ha : a < 4294967296) (hb : b < 4294967296) : bits .xor .u32 a b = ((a ^^^ b : Nat) : Int) := by
  have ha' : a % 2 ^ IntKind.u32.bits = a := Nat.mod_eq_of_lt ha
  have hb' : b % 2 ^ IntKind.u32.bits = b := Nat.mod_eq_of_lt hb
  have h := Nat.xor_lt_two_pow (n := 32) ha hb
  simp only [bits, BitVec.ofInt_natCast, BitVec.toNat_xor, BitVec.toNat_ofNat, ha', hb']
  rw [wrap_u32]
  have : ((4294967296 : Nat) : Int) = 2 ^ 32 := by decide
  omega
theorem run_xor32 {P : Program} {w : World} (t : TypeId) {a b : Nat} (ha : a < 4294967296) (hb : b < 4294967296) : (binOp .xor t (U a) (U b)).run P w = .ok (U (a ^^^ b)) w := by
  rw [run_num2 .xor t .u32 a b (by simp)]
  simp only [num2, bits_xor32 ha hb]
theorem run_and32 {P : Program} {w : World} (t : TypeId) {a b : Nat} (ha : a < 4294967296) (hb : b < 4294967296) : (binOp .and t (U a) (U b)).run P w = .ok (U (a &&& b)) w := by
  rw [run_num2 .and t .u32 a b (by simp)]
  simp only [num2, bits_and32 ha hb]
theorem run_or32 {P : Program} {w : World} (t : TypeId) {a b : Nat} (ha : a < 4294967296) (hb : b < 4294967296) : (binOp .or t (U a) (U b)).run P w = .ok (U (a ||| b)) w := by
  rw [run_num2 .or t .u32 a b (by simp)]
  simp only [num2, bits_or32 ha hb]
theorem run_add32 {P : Program} {w : World} (t : TypeId) (a b : Nat) : (binOp .add t (U a) (U b)).run P w = .ok (U ((a + b) % 4294967296)) w := by
  rw [run_num2 .add t .u32 a b (by simp)]
  simp only [num2, wrap_u32]
  have e : ((a : Int) + b) % 4294967296 = (((a + b) % 4294967296 : Nat) : Int) := by omega
  rw [e]
theorem run_not32 {P : Program} {w : World} {a : Nat} (ha : a < 4294967296) : (Op.unary .xor (U a)).run P w = .ok (U (4294967295 ^^^ a)) w := by
  show Result.ok (Value.int .u32 (bits .xor .u32 ((4294967295 : Nat) : Int) a)) w = _
  rw [bits_xor32 (by omega) ha]
theorem rotr_or {x n : Nat} (hx : x < 4294967296) (h1 : 1 ≤ n) (h2 : n ≤ 31) : (x * 2 ^ (32 - n) % 4294967296) ||| (x / 2 ^ n) = rotr x n := by
  have hp : 2 ^ n * 2 ^ (32 - n) = 4294967296 := by rw [← Nat.pow_add, show n + (32 - n) = 32 by omega]
  have e1 : x * 2 ^ (32 - n) % 4294967296 = 2 ^ (32 - n) * (x % 2 ^ n) := by
    rw [← hp, Nat.mul_comm x, Nat.mul_comm (2 ^ n), Nat.mul_mod_mul_left]
  have e2 : x / 2 ^ n < 2 ^ (32 - n) := by
    rw [Nat.div_lt_iff_lt_mul (Nat.two_pow_pos n), Nat.mul_comm, hp]; exact hx
  rw [e1, ← Nat.two_pow_add_eq_or_of_lt e2]
  unfold rotr
  rw [Nat.mul_comm (x % 2 ^ n)]
  omega
theorem rot_call {K : Value → World → Prop} {w : World} {x n : Nat} (hx : x < 4294967296) (h1 : 1 ≤ n) (h2 : n ≤ 31) (hk : K (U (rotr x n)) w) :
    CallN Tryd.prog (callS (fnv 98) #[U x, .int .i64 (-(n : Int))]) K w := by
  refine CallN_fn (args := [U x, .int .i64 (-(n : Int))]) (by kernel_rfl) (F98_calls ?_)
  unfold F98
  refine Do_ok (run_conv _ _ .u64 .i64 _ (by kernel_rfl) (by kernel_rfl)) ?_
  have e1 : IntKind.u64.wrap (-(n : Int)) = ((18446744073709551616 - n : Nat) : Int) := by
    have : IntKind.u64.wrap (-(n : Int)) = (-(n : Int)) % 18446744073709551616 := by simp [IntKind.wrap, IntKind.bits, IntKind.signed]
    rw [this]; omega
  have e2 : bits .and .u64 ((18446744073709551616 - n : Nat) : Int) 31 = ((32 - n : Nat) : Int) := by
    have := bits_mask .u64 64 (by decide) (fun n h0 h1 => wrap_u64 h0 (by omega)) 5 (by decide) ((18446744073709551616 - n : Nat) : Int) (by omega) (by omega)
    rw [show ((2 : Int) ^ 5 - 1) = 31 by decide] at this
    rw [this]; omega
  refine Do_ok (run_num2 .and _ .u64 _ _ (by simp)) ?_
  simp only [num2, e1, e2]
  refine Do_ok (run_shl _ .u32 .u64 _ _ (by omega)) ?_
  refine Do_ok (run_num2 .sub _ .u64 _ _ (by simp)) ?_
  have e3 : IntKind.u64.wrap (32 - ((32 - n : Nat) : Int)) = (n : Int) := by rw [wrap_u64 (by omega) (by omega)]; omega
  simp only [num2, e3]
  refine Do_ok (run_shr _ .u32 .u64 _ _ (by omega)) ?_
  have e4 : IntKind.u32.wrap ((x : Int) * 2 ^ min ((32 - n : Nat) : Int).toNat IntKind.u32.bits) = ((x * 2 ^ (32 - n) % 4294967296 : Nat) : Int) := by
    rw [wrap_u32, show min ((32 - n : Nat) : Int).toNat IntKind.u32.bits = 32 - n by simp only [IntKind.bits]; omega]
    have h : (x : Int) * 2 ^ (32 - n) = ((x * 2 ^ (32 - n) : Nat) : Int) := by rw [Int.natCast_mul, Int.natCast_pow]; rfl
    rw [h]; generalize x * 2 ^ (32 - n) = y; omega
  have e5 : (x : Int).fdiv (2 ^ min (n : Int).toNat IntKind.u32.bits) = ((x / 2 ^ n : Nat) : Int) := by
    rw [show min (n : Int).toNat IntKind.u32.bits = n by simp only [IntKind.bits]; omega, Int.fdiv_eq_ediv_of_nonneg _ (Int.pow_nonneg (by decide)), Int.natCast_ediv, Int.natCast_pow]
    rfl
  rw [e4, e5]
  refine Do_ok (run_or32 _ (Nat.mod_lt _ (by decide)) (Nat.lt_of_le_of_lt (Nat.div_le_self _ _) hx)) ?_
  rw [rotr_or hx h1 h2]
  exact hk
theorem turn_call {K : Value → World → Prop} {w : World} {x : Nat} (n : Nat) (hx : x < 4294967296) (h1 : 1 ≤ n) (h2 : n ≤ 31) (hk : K (U (rotr x n)) w) :
    CallN Tryd.prog (callS (fnv 91) #[U x, .int .i64 (n : Int)]) K w := by
  refine CallN_fn (args := [U x, .int .i64 (n : Int)]) (by kernel_rfl) (F91_calls ?_)
  unfold F91
  refine Do_ok (run_neg .i64 _) ?_
  rw [show IntKind.i64.wrap (0 - (n : Int)) = -(n : Int) by rw [wrap_i64 (by omega) (by omega)]; omega]
  exact rot_call hx h1 h2 hk
def three (x a b c : Nat) : Nat := rotr x a ^^^ rotr x b ^^^ rotr x c
theorem three_call {K : Value → World → Prop} {w : World} {x : Nat} (a b c : Nat) (hx : x < 4294967296) (ha : 1 ≤ a ∧ a ≤ 31) (hb : 1 ≤ b ∧ b ≤ 31) (hc : 1 ≤ c ∧ c ≤ 31) (hk : K (U (three x a b c)) w) :
    CallN Tryd.prog (callS (fnv 76) #[U x, .int .i64 (a : Int), .int .i64 (b : Int), .int .i64 (c : Int)]) K w := by
  refine CallN_fn (args := [U x, .int .i64 (a : Int), .int .i64 (b : Int), .int .i64 (c : Int)]) (by kernel_rfl) (F76_calls ?_)
  unfold F76
  have ra := rotr_lt (n := a) hx (by omega)
  have rb := rotr_lt (n := b) hx (by omega)
  have rc := rotr_lt (n := c) hx (by omega)
  refine turn_call a hx ha.1 ha.2 (turn_call b hx hb.1 hb.2 ?_)
  refine Do_ok (run_xor32 _ ra rb) (turn_call c hx hc.1 hc.2 ?_)
  exact Do_ok (run_xor32 _ (Nat.xor_lt_two_pow (n := 32) ra rb) rc) hk
end Go.Px
end
section
set_option linter.unusedVariables false
set_option linter.unusedSimpArgs false
set_option linter.unusedVariables false
set_option maxRecDepth 20000
namespace Go.Px
open Go Go.Proofs
def low (a : Nat) : Nat := rotr a 7 ^^^ rotr a 18 ^^^ (a / 2 ^ 3)
def high (b : Nat) : Nat := rotr b 17 ^^^ rotr b 19 ^^^ (b / 2 ^ 10)
def nextw (rs : List Nat) (i : Nat) : Nat :=
  (rs.getD (i % 16) 0 + ((low (rs.getD ((i + 1) % 16) 0) + rs.getD ((i + 9) % 16) 0) % 4294967296 + high (rs.getD ((i + 14) % 16) 0)) % 4294967296) % 4294967296
theorem xlt {a b : Nat} (ha : a < 4294967296) (hb : b < 4294967296) : a ^^^ b < 4294967296 := Nat.xor_lt_two_pow (n := 32) ha hb
theorem run_shr32 {P : Program} {w : World} (t : TypeId) (x n : Nat) (hn : n ≤ 31 := by omega) : (binOp .shr t (U x) (W n)).run P w = .ok (U (x / 2 ^ n)) w := by
  rw [run_shr _ .u32 .u64 _ _ (by omega)]
  rw [show min (n : Int).toNat IntKind.u32.bits = n by simp only [IntKind.bits]; omega, Int.fdiv_eq_ediv_of_nonneg _ (Int.pow_nonneg (by decide))]
  show Result.ok (U (x / 2 ^ n)) w = _
  rfl
theorem next_call {K : Value → World → Prop} {w : World} {b i : Nat} {rs : List Nat} (hb : Has w b 148 (rs.map U)) (hl : rs.length = 16) (hr : ∀ x ∈ rs, x < 4294967296) (hi : i < 1000000)
    (hk : ∀ w', Ext (fun k => k = b) w w' → w'.heap.size = w.heap.size → Has w' b 148 ((rs.set (i % 16) (nextw rs i)).map U) → K (U (nextw rs i)) w') :
    CallN Tryd.prog (callS (fnv 75) #[A b 0, I i]) K w := by
  refine CallN_fn (args := [A b 0, I i]) (by kernel_rfl) (F75_calls ?_)
  unfold F75
  have hb : Has (drewW w) b 148 (rs.map U) := hb
  have g : ∀ j, rs.getD j 0 < 4294967296 := fun j => by
    rw [List.getD_eq_getElem?_getD]
    cases h : rs[j]? with
    | none => simp
    | some x => exact hr x (List.mem_of_getElem? h)
  show RdNow _ _ (drewW w) _
  refine RdNow_ok (run_add64 _ _ _) (RdNow_ok (run_rem64 _ _ _) (RdNowN_ok (run_nil_some _) (RdNow_ok (run_idxA 16 ((i + 1) % 16)) (RdNow_ok (run_ld hb.nat) ?_))))
  refine RdNow_ok (run_add64 _ _ _) (RdNow_ok (run_rem64 _ _ _) (RdNowN_ok (run_nil_some _) (RdNow_ok (run_idxA 16 ((i + 14) % 16)) (RdNow_ok (run_ld hb.nat) ?_))))
  refine turn_call 7 (g _) (by omega) (by omega) (turn_call 18 (g _) (by omega) (by omega) (Do_ok (run_xor32 _ (rotr_lt (n := 7) (g _) (by omega)) (rotr_lt (n := 18) (g _) (by omega))) ?_))
  refine Do_ok (run_shr32 _ _ 3) (Do_ok (run_xor32 _ (xlt (rotr_lt (n := 7) (g _) (by omega)) (rotr_lt (n := 18) (g _) (by omega))) (by have := g ((i + 1) % 16); omega)) ?_)
  refine turn_call 17 (g _) (by omega) (by omega) (turn_call 19 (g _) (by omega) (by omega) (Do_ok (run_xor32 _ (rotr_lt (n := 17) (g _) (by omega)) (rotr_lt (n := 19) (g _) (by omega))) ?_))
  refine Do_ok (run_shr32 _ _ 10) (Do_ok (run_xor32 _ (xlt (rotr_lt (n := 17) (g _) (by omega)) (rotr_lt (n := 19) (g _) (by omega))) (by have := g ((i + 14) % 16); omega)) ?_)
  have hb : Has (drewW (drewW w)) b 148 (rs.map U) := hb
  refine Drew_in (Draw_any ?_)
  refine RdNow_ok (run_rem64 _ _ _) (RdNowN_ok (run_nil_some _) (RdNow_ok (run_idxA 16 (i % 16)) (RdNow_ok (run_ld hb.nat) ?_)))
  refine RdNow_ok (run_add64 _ _ _) (RdNow_ok (run_rem64 _ _ _) (RdNowN_ok (run_nil_some _) (RdNow_ok (run_idxA 16 ((i + 9) % 16)) (RdNow_ok (run_ld hb.nat) ?_))))
  refine RdNow_ok (run_add32 _ _ _) (RdNow_ok (run_add32 _ _ _) (RdNow_ok (run_add32 _ _ _) (RdSN_any (fun _ => run_nil_some _) (RdNow_ok (run_idxA 16 (i % 16)) ?_))))
  change Do Tryd.prog (Instr.storeAt _ _ (U (nextw rs i))) _ _
  refine Do_store1 (by kernel_rfl) hb (by rw [List.length_map]; omega) rfl rfl fun w1 e hs h => ?_
  rw [← List.map_set] at h
  have e' := e.undrew.undrew
  have hs' : w1.heap.size = w.heap.size := hs
  refine Do_ok (run_rem64 _ _ _) (CallN_value (run_nil_some _) (Do_ok (run_idxA 16 (i % 16)) (Do_ok (run_ld (h.nat (by rw [List.length_set]; omega))) ?_)))
  have hg : (rs.set (i % 16) (nextw rs i)).getD (i % 16) 0 = nextw rs i := by
    rw [List.getD_eq_getElem?_getD, List.getElem?_set_self (by omega), Option.getD_some]
  have := hk w1 e' hs' h
  rw [← hg] at this
  exact this
theorem nextw_lt (rs : List Nat) (i : Nat) : nextw rs i < 4294967296 := Nat.mod_lt _ (by decide)
end Go.Px
end
section
set_option linter.unusedVariables false
set_option linter.unusedSimpArgs false
set_option linter.unusedVariables false
set_option maxRecDepth 20000
set_option linter.unusedSimpArgs false
namespace Go.Px
open Go Go.Proofs
abbrev g0 (l : List Nat) (j : Nat) : Nat := l.getD j 0
def sh (x c : Nat) : Nat := (x * 256 % 4294967296) ||| c
def word4 (bs : List Nat) (i : Nat) : Nat := ((bs.drop (4 * i)).take 4).foldl sh 0
def ring0 (bs : List Nat) : Nat → List Nat
  | 0 => List.replicate 16 0
  | i + 1 => (ring0 bs i).set i (word4 bs i)
def tOf (v : List Nat) (k x : Nat) : Nat :=
  (((g0 v 7 + three (g0 v 4) 6 11 25) % 4294967296 + ((g0 v 4 &&& g0 v 5) ^^^ ((4294967295 ^^^ g0 v 4) &&& g0 v 6))) % 4294967296 + k) % 4294967296 + x
def t2 (v : List Nat) (k x : Nat) : Nat := tOf v k x % 4294967296
def u2 (v : List Nat) : Nat := (three (g0 v 0) 2 13 22 + ((g0 v 0 &&& g0 v 1) ^^^ (g0 v 0 &&& g0 v 2) ^^^ (g0 v 1 &&& g0 v 2))) % 4294967296
def stepV (v : List Nat) (k x : Nat) : List Nat := [(t2 v k x + u2 v) % 4294967296, g0 v 0, g0 v 1, g0 v 2, (g0 v 3 + t2 v k x) % 4294967296, g0 v 4, g0 v 5, g0 v 6]
def stepR (rs : List Nat) (i : Nat) : List Nat := if i < 16 then rs else rs.set (i % 16) (nextw rs i)
def stepX (rs : List Nat) (i : Nat) : Nat := if i < 16 then g0 rs (i % 16) else nextw rs i
def rnd (ks s rs : List Nat) : Nat → List Nat × List Nat
  | 0 => (s, rs)
  | i + 1 => (stepV (rnd ks s rs i).1 (g0 ks i) (stepX (rnd ks s rs i).2 i), stepR (rnd ks s rs i).2 i)
def fin8 (s v : List Nat) : Nat → List Nat
  | 0 => s
  | i + 1 => (fin8 s v i).set i ((g0 (fin8 s v i) i + g0 v i) % 4294967296)
def takeP (ks s bs : List Nat) : List Nat := fin8 s (rnd ks s (ring0 bs 16) 64).1 8
/-- Numbers of 32 bits. -/
def Ok32 (l : List Nat) (n : Nat) : Prop := l.length = n ∧ ∀ j, g0 l j < 4294967296
theorem getD_set (l : List Nat) (i j x : Nat) : g0 (l.set i x) j = if i = j ∧ i < l.length then x else g0 l j := by
  simp only [List.getD_eq_getElem?_getD, List.getElem?_set]
  by_cases h : i = j
  · subst h
    by_cases h2 : i < l.length
    · simp [h2]
    · simp [h2]
  · simp [h]
theorem Ok32.set {l : List Nat} {n : Nat} (h : Ok32 l n) (i x : Nat) (hx : x < 4294967296) : Ok32 (l.set i x) n := by
  refine ⟨by rw [List.length_set]; exact h.1, fun j => ?_⟩
  rw [getD_set]
  split
  · exact hx
  · exact h.2 j
theorem Ok32.mem {l : List Nat} {n : Nat} (h : Ok32 l n) : ∀ x ∈ l, x < 4294967296 := fun x hx => by
  obtain ⟨j, hj, rfl⟩ := List.getElem_of_mem hx
  have := h.2 j
  simpa [List.getD_eq_getElem?_getD, List.getElem?_eq_getElem hj] using this
theorem ok_stepV {v : List Nat} (h : Ok32 v 8) (k x : Nat) : Ok32 (stepV v k x) 8 := by
  refine ⟨rfl, fun j => ?_⟩
  have := h.2
  unfold stepV
  have hm : ∀ y, y % 4294967296 < 4294967296 := fun y => Nat.mod_lt _ (by decide)
  match j with
  | 0 => simp only [List.getD_cons_zero, List.getD_cons_succ]; exact hm _
  | 1 => simp only [List.getD_cons_zero, List.getD_cons_succ]; exact h.2 0
  | 2 => simp only [List.getD_cons_zero, List.getD_cons_succ]; exact h.2 1
  | 3 => simp only [List.getD_cons_zero, List.getD_cons_succ]; exact h.2 2
  | 4 => simp only [List.getD_cons_zero, List.getD_cons_succ]; exact hm _
  | 5 => simp only [List.getD_cons_zero, List.getD_cons_succ]; exact h.2 4
  | 6 => simp only [List.getD_cons_zero, List.getD_cons_succ]; exact h.2 5
  | 7 => simp only [List.getD_cons_zero, List.getD_cons_succ]; exact h.2 6
  | j + 8 => simp [List.getD_eq_getElem?_getD]
theorem ok_stepR {rs : List Nat} (h : Ok32 rs 16) (i : Nat) : Ok32 (stepR rs i) 16 := by
  unfold stepR
  split
  · exact h
  · exact h.set _ _ (nextw_lt _ _)
theorem ok_rnd {ks s rs : List Nat} (hs : Ok32 s 8) (hr : Ok32 rs 16) : ∀ i, Ok32 (rnd ks s rs i).1 8 ∧ Ok32 (rnd ks s rs i).2 16
  | 0 => ⟨hs, hr⟩
  | i + 1 => ⟨ok_stepV (ok_rnd hs hr i).1 _ _, ok_stepR (ok_rnd hs hr i).2 _⟩
theorem ok_fin8 {s v : List Nat} (hs : Ok32 s 8) : ∀ i, Ok32 (fin8 s v i) 8
  | 0 => hs
  | i + 1 => (ok_fin8 hs i).set _ _ (Nat.mod_lt _ (by decide))
theorem sh_lt {x c : Nat} (hc : c < 256) : sh x c < 4294967296 := Nat.or_lt_two_pow (n := 32) (Nat.mod_lt _ (by decide)) (by omega)
theorem foldl_sh_lt : ∀ (l : List Nat) (x : Nat), (∀ c ∈ l, c < 256) → x < 4294967296 → l.foldl sh x < 4294967296
  | [], x, _, hx => hx
  | c :: l, x, hc, hx => foldl_sh_lt l _ (fun d hd => hc d (List.mem_cons_of_mem _ hd)) (sh_lt (hc c List.mem_cons_self))
theorem word4_lt {bs : List Nat} (hb : ∀ c ∈ bs, c < 256) (i : Nat) : word4 bs i < 4294967296 := foldl_sh_lt _ _ (fun c hc => hb c (List.mem_of_mem_drop (List.mem_of_mem_take hc))) (by decide)
theorem ok_ring0 {bs : List Nat} (hb : ∀ c ∈ bs, c < 256) : ∀ i, Ok32 (ring0 bs i) 16
  | 0 => ⟨rfl, fun j => by simp only [ring0, g0, List.getD_eq_getElem?_getD, List.getElem?_replicate]; split <;> simp⟩
  | i + 1 => (ok_ring0 hb i).set _ _ (word4_lt hb i)
theorem ok_take {ks s bs : List Nat} (hs : Ok32 s 8) : Ok32 (takeP ks s bs) 8 := ok_fin8 hs 8
end Go.Px
end
section
set_option linter.unusedVariables false
set_option linter.unusedSimpArgs false
set_option linter.unusedVariables false
set_option maxRecDepth 20000
namespace Go.Px
open Go Go.Proofs
attribute [local irreducible] Do RdNow RdS RdNowN RdSN CallN Drew Draw Loop JoinC
/-- One element of an array put in. -/
theorem ast {P : Program} {w : World} {U' : Unit → World → Prop} {b j x : Nat} {e t : TypeId} {xs : List Nat} (h : Has w b e (xs.map U))
    (hk : ∀ w', Ext (fun k => k = b) w w' → Has w' b e ((xs.set j x).map U) → U' () w') (ht : oneT P t = true := by kernel_rfl) (hj : j < xs.length := by omega) : Do P (Instr.storeAt t (A b j) (U x)) U' w :=
  Do_store1 ht h (by rw [List.length_map]; exact hj) rfl rfl fun w' e _ h => hk w' e (by rw [List.map_set]; exact h)
section
variable {K : Value → World → Prop} {w0 : World}
/-- The last eight numbers are added. -/
theorem take_p2 {e : Env} {w : World} {b2 b4 b9 : Nat} {s v : List Nat} {c4 : List Value} (h2 : e 2 = A b2 0) (h4 : e 4 = A b4 0) (h9 : e 9 = A b9 0) (hs : Ok32 s 8) (hv : Ok32 v 8)
    (m2 : Has w b2 111 (s.map U)) (m4 : Has w b4 111 c4) (m9 : Has w b9 111 (v.map U)) (l4 : c4.length = 8) (d24 : b2 ≠ b4) (d29 : b2 ≠ b9) (d49 : b4 ≠ b9)
    (hk : ∀ w', Ext (fun k => k = b2 ∨ k = b4) w w' → K (.agg ((fin8 s v 8).map U).toArray) w') : F61_p2 Tryd.prog K e w := by
  unfold F61_p2
  refine JoinC_in (Loop_in (fun e' w' => ∃ i : Nat, i ≤ 8 ∧ e' 121 = I i ∧ e' 2 = A b2 0 ∧ e' 9 = A b9 0 ∧ e' 4 = A b4 0 ∧ Ext (fun k => k = b2 ∨ k = b4) w w' ∧ Has w' b2 111 ((fin8 s v i).map U) ∧ Has w' b9 111 (v.map U) ∧ Has w' b4 111 c4)
    (fun e' _ => 8 - numOf (e' 121)) ⟨0, by omega, rfl, h2, h9, h4, Ext.refl _ _, m2, m9, m4⟩ ?_)
  rintro e' w' ⟨i, hi, i121, i2, i9, i4, hx, n2, n9, n4⟩
  obtain ⟨e'', rfl⟩ := env4 i121 i2 i9 i4
  have hf := ok_fin8 (v := v) hs i
  have hfl := hf.1
  have hvl := hv.1
  refine Do_ok (run_lss _ _ i 8) (JoinC_in (Cond_split (fun c => ⟨rfl, ?_⟩) (fun c => ⟨rfl, ?_⟩)))
  · have hlt : i < 8 := by have := of_decide_eq_true c; omega
    unfold F61_p1
    refine JoinC_in (Drew_in ?_)
    have k2 : Has (drewW w') b2 111 ((fin8 s v i).map U) := n2
    have k9 : Has (drewW w') b9 111 (v.map U) := n9
    have k4 : Has (drewW w') b4 111 c4 := n4
    refine aldN k2 8 i (aldN k9 8 i (RdNow_ok (run_add32 _ _ _) (RdNow_ok (run_idxA 8 i) (ast k2 fun w1 x1 q2 => ⟨rfl, ?_⟩))))
    refine Do_ok (run_add64 _ i 1) ⟨rfl, ⟨i + 1, by omega, rfl, rfl, rfl, rfl, hx.trans (x1.undrew.mono fun k _ h => .inl h), q2, k9.ext x1 (Ne.symm d29), k4.ext x1 (Ne.symm d24)⟩, ?_⟩
    show 8 - ((i : Int) + 1).toNat < 8 - (i : Int).toNat
    omega
  · have h8 : i = 8 := by have := of_decide_eq_false c; omega
    subst h8
    refine Do_ok (run_ldN n2.row 8) ?_
    refine Do_storeN (n := 8) (by kernel_rfl) (by simp [Value.cells, hfl]) n4 (by omega) (map_one (xs := fin8 s v 8) fun _ => rfl) fun w1 x1 _ q4 => ?_
    have e8 : c4.take 0 ++ (Value.agg ((fin8 s v 8).map U).toArray).cells.toList ++ c4.drop (0 + 8) = (fin8 s v 8).map U := by
      simp [Value.cells, List.drop_eq_nil_of_le, l4]
    rw [e8] at q4
    exact RdNow_ok (run_cellN q4.row (n := 8)) (hk _ (hx.trans (x1.mono fun k _ h => .inr h)))
end
end Go.Px
end
section
set_option linter.unusedVariables false
set_option linter.unusedSimpArgs false
set_option linter.unusedVariables false
set_option maxRecDepth 20000
namespace Go.Px
open Go Go.Proofs
attribute [local irreducible] Do RdNow RdS RdNowN RdSN CallN Drew Draw Loop JoinC
theorem alt {a b : Nat} (hb : b < 4294967296) : a &&& b < 4294967296 := Nat.and_lt_two_pow (n := 32) _ hb
theorem run_not32' {P : Program} {w : World} {a : Nat} (ha : a < 4294967296) : (Op.unary .xor (U a)).run P w = .ok (U (4294967295 ^^^ a)) w := run_not32 ha
theorem built8 (a b c d e f g h : Nat) : Tryd.prog.built 111 [(0, U a), (1, U b), (2, U c), (3, U d), (4, U e), (5, U f), (6, U g), (7, U h)] = some #[U a, U b, U c, U d, U e, U f, U g, U h] := by kernel_rfl
theorem take_p3 {j7 : Env → World → Prop} {e : Env} {w : World} {b9 kk x : Nat} {v : List Nat} (h9 : e 9 = A b9 0) (h11 : e 11 = U kk) (h12 : e 12 = U x) (hv : Ok32 v 8) (m9 : Has w b9 111 (v.map U))
    (hk : ∀ e' w', e' 44 = e 44 → e' 2 = e 2 → e' 4 = e 4 → e' 5 = e 5 → e' 9 = e 9 → e' 43 = e 43 → Ext (fun k => k = b9) w w' → Has w' b9 111 ((stepV v kk x).map U) → j7 e' w') : F61_p3 Tryd.prog j7 e w := by
  obtain ⟨e, rfl⟩ := env3 h9 h11 h12
  have hl := hv.1
  have g := hv.2
  unfold F61_p3
  have m : Has (drewW w) b9 111 (v.map U) := m9
  refine Drew_in (Draw_same ?_)
  refine aldS m 8 7 (aldM m 8 4 (aldS m 8 4 (aldS m 8 5 (RdS_same (run_and32 _ (g 4) (g 5)) (aldS m 8 4 (RdS_same (run_not32 (g 4)) (aldS m 8 6 ?_)))))))
  refine RdS_same (run_and32 _ (xlt (by decide) (g 4)) (g 6)) (RdS_same (run_xor32 _ (alt (g 5)) (alt (g 6))) ?_)
  refine three_call 6 11 25 (g 4) (by decide) (by decide) (by decide) ⟨rfl, ?_⟩
  refine RdNow_ok (run_add32 _ _ _) (RdNow_ok (run_add32 _ _ _) (RdNow_ok (run_add32 _ _ _) (RdNow_ok (run_add32 _ _ _) ?_)))
  have n : Has (drewW (drewW w)) b9 111 (v.map U) := m9
  refine Drew_in (Draw_same ?_)
  refine aldM n 8 0 (aldS n 8 0 (aldS n 8 1 (RdS_same (run_and32 _ (g 0) (g 1)) (aldS n 8 0 (aldS n 8 2 (RdS_same (run_and32 _ (g 0) (g 2)) (RdS_same (run_xor32 _ (alt (g 1)) (alt (g 2))) ?_)))))))
  refine aldS n 8 1 (aldS n 8 2 (RdS_same (run_and32 _ (g 1) (g 2)) (RdS_same (run_xor32 _ (xlt (alt (g 1)) (alt (g 2))) (alt (g 2))) ?_)))
  refine three_call 2 13 22 (g 0) (by decide) (by decide) (by decide) ⟨rfl, ?_⟩
  refine RdNow_ok (run_add32 _ _ _) ?_
  refine Do_ok (run_add32 _ _ _) ?_
  refine ald n 8 0 ?_
  refine ald n 8 1 ?_
  refine ald n 8 2 ?_
  refine ald n 8 3 ?_
  refine Do_ok (run_add32 _ _ _) ?_
  refine ald n 8 4 ?_
  refine ald n 8 5 ?_
  refine Do_ok (run_idxA 8 6) ?_
  refine Do_ok (run_ld n.nat) ?_
  refine Do_ok (run_build _ _ _ _ (built8 _ _ _ _ _ _ _ _)) ?_
  refine Do_storeN (n := 8) (cs := v.map U) (by kernel_rfl) rfl n (by rw [List.length_map]; omega) rfl fun w1 x1 _ q => ⟨rfl, ?_⟩
  refine hk _ w1 rfl rfl rfl rfl rfl rfl x1.undrew.undrew ?_
  have hd : List.drop (0 + 8) (v.map U) = [] := List.drop_eq_nil_of_le (by rw [List.length_map]; omega)
  rw [hd] at q
  exact q
end Go.Px
end
section
set_option linter.unusedVariables false
set_option linter.unusedSimpArgs false
set_option linter.unusedVariables false
set_option maxRecDepth 20000
namespace Go.Px
open Go Go.Proofs
attribute [local irreducible] Do RdNow RdS RdNowN RdSN CallN Drew Draw Loop JoinC
theorem get_map (ks : List Nat) (i : Nat) (h : i < ks.length) : (ks.map U)[i]? = some (U (g0 ks i)) := by
  simp [List.getD_eq_getElem?_getD, List.getElem?_eq_getElem h]
theorem take_p4 {next2 : Env → World → Prop} {e : Env} {w : World} {b5 b9 i : Nat} {ks v rs : List Nat} (h43 : e 43 = .agg (ks.map U).toArray) (h44 : e 44 = I i) (h5 : e 5 = A b5 0) (h9 : e 9 = A b9 0)
    (hi : i < 64) (hks : ks.length = 64) (hv : Ok32 v 8) (hr : Ok32 rs 16) (m9 : Has w b9 111 (v.map U)) (m5 : Has w b5 148 (rs.map U)) (d : b5 ≠ b9)
    (hk : ∀ e' w', e' 44 = I (i + 1 : Nat) → e' 2 = e 2 → e' 4 = e 4 → e' 5 = e 5 → e' 9 = e 9 → e' 43 = e 43 → Ext (fun k => k = b9 ∨ k = b5) w w' → Has w' b9 111 ((stepV v (g0 ks i) (stepX rs i)).map U) → Has w' b5 148 ((stepR rs i).map U) → next2 e' w') :
    F61_p4 Tryd.prog next2 e w := by
  obtain ⟨e, rfl⟩ := env4 h43 h44 h5 h9
  have hl := hr.1
  unfold F61_p4
  refine JoinC_in ?_
  refine Do_ok (run_indexAgg 64 (get_map ks i (by omega))) ?_
  refine Do_ok (run_rem64 _ _ _) ?_
  refine Do_ok (run_idxA 16 (i % 16)) ?_
  refine Do_ok (run_ld m5.nat) ?_
  refine JoinC_in ?_
  have fin : ∀ (x : Nat) (e1 : Env) (w1 : World), e1 9 = A b9 0 → e1 11 = U (g0 ks i) → e1 12 = U x → e1 44 = I i → e1 2 = e 2 → e1 4 = e 4 → e1 5 = A b5 0 → e1 43 = .agg (ks.map U).toArray → Ext (fun k => k = b5) w w1 → Has w1 b5 148 ((stepR rs i).map U) → x = stepX rs i →
      F61_p3 Tryd.prog (fun e9 w => Do Tryd.prog (binOp .add 3 (e9 44) (Value.int .i64 1)) (fun v120 w => @Eq (List Nat) [] [] ∧ next2 (upd (upd e9 120 v120) 44 v120) w) w) e1 w1 := by
    intro x e1 w1 a9 a11 a12 a44 a2 a4 a5 a43 x1 q5 hx
    subst hx
    refine take_p3 a9 a11 a12 hv (m9.ext x1 (Ne.symm d)) fun e' w' c44 c2 c4 c5 c9 c43 x2 q9 => ?_
    rw [a44] at c44
    obtain ⟨e', rfl⟩ := env1 c44
    refine Do_ok (run_add64 _ _ _) ⟨rfl, hk _ w' rfl (c2.trans a2) (c4.trans a4) (c5.trans a5) (c9.trans a9) (c43.trans a43) ?_ q9 (q5.ext x2 d)⟩
    exact (x1.mono fun k _ h => .inr h).trans (x2.mono fun k _ h => .inl h)
  refine Do_ok (run_geq _ _ _ _) (Cond_split (fun c => ?_) (fun c => ⟨rfl, ?_⟩))
  · have hge : 16 ≤ i := by have := of_decide_eq_true c; omega
    refine next_call m5 hl hr.mem (by omega) fun w1 x1 _ q5 => ⟨rfl, ?_⟩
    refine fin (nextw rs i) _ w1 rfl rfl rfl rfl rfl rfl rfl rfl x1 ?_ ?_
    · unfold stepR; rw [if_neg (by omega)]; exact q5
    · unfold stepX; rw [if_neg (by omega)]
  · have hlt : i < 16 := by have := of_decide_eq_false c; omega
    refine fin (g0 rs (i % 16)) _ w rfl rfl rfl rfl rfl rfl rfl rfl (Ext.refl _ _) ?_ ?_
    · unfold stepR; rw [if_pos (by omega)]; exact m5
    · unfold stepX; rw [if_pos (by omega)]
theorem zero8 : zeroT Tryd.prog 111 = some (.agg ((List.replicate 8 0).map U).toArray) := by kernel_rfl
theorem take_p5 {K : Value → World → Prop} {e : Env} {w : World} {b2 b4 b5 : Nat} {e0 : TypeId} {ks s rs : List Nat} {c4 : List Value} (h2 : e 2 = A b2 0) (h4 : e 4 = A b4 0) (h5 : e 5 = A b5 0)
    (hG : Has w 0 e0 (ks.map U)) (hks : ks.length = 64) (hs : Ok32 s 8) (hr : Ok32 rs 16) (m2 : Has w b2 111 (s.map U)) (m4 : Has w b4 111 c4) (l4 : c4.length = 8) (m5 : Has w b5 148 (rs.map U))
    (d24 : b2 ≠ b4) (d25 : b2 ≠ b5) (d45 : b4 ≠ b5) (d0 : 0 < b2 ∧ 0 < b4 ∧ 0 < b5)
    (hk : ∀ w', Ext (fun k => k = b2 ∨ k = b4 ∨ k = b5) w w' → K (.agg ((fin8 s (rnd ks s rs 64).1 8).map U).toArray) w') : F61_p5 Tryd.prog K e w := by
  obtain ⟨e, rfl⟩ := env3 h2 h4 h5
  have sl := hs.1
  unfold F61_p5
  refine Do_ok (run_ldN m2.row 8) ?_
  refine Do_allocA zero8 fun w1 x1 z1 n9 => ?_
  refine Do_storeA (xs := s.map U) 8 n9 rfl (by rw [List.length_map]; exact sl) (map_one fun _ => rfl) fun w2 x2 z2 q9 => ?_
  have x12 : Ext No w w2 := x1.trans_new x2 (fun i hi h => by omega)
  have q2 := m2.ext x12 (fun h => h)
  have q4 := m4.ext x12 (fun h => h)
  have q5 := m5.ext x12 (fun h => h)
  have qG := hG.ext x12 (fun h => h)
  have l2 := m2.lt
  have l4' := m4.lt
  have l5 := m5.lt
  refine JoinC_in ?_
  refine Do_ok (run_ldN qG.row 64) ?_
  refine Loop_in (fun e' w' => ∃ i : Nat, i ≤ 64 ∧ e' 44 = I i ∧ e' 43 = .agg (ks.map U).toArray ∧ e' 2 = A b2 0 ∧ e' 4 = A b4 0 ∧ e' 5 = A b5 0 ∧ e' 9 = A w.heap.size 0 ∧ Ext (fun k => k = w.heap.size ∨ k = b5) w2 w' ∧
      Has w' w.heap.size 111 ((rnd ks s rs i).1.map U) ∧ Has w' b5 148 ((rnd ks s rs i).2.map U))
    (fun e' _ => 64 - numOf (e' 44)) ⟨0, by omega, rfl, rfl, rfl, rfl, rfl, rfl, Ext.refl _ _, q9, q5⟩ ?_
  rintro e' w' ⟨i, hi, i44, i43, i2, i4, i5, i9, hx, n9', n5⟩
  obtain ⟨e', rfl⟩ := env6 i44 i43 i2 i4 i5 i9
  have ho := ok_rnd (ks := ks) hs hr i
  refine Do_ok (run_lss _ _ i 64) ?_
  refine JoinC_in (Cond_split (fun c => ⟨rfl, ?_⟩) (fun c => ⟨rfl, ?_⟩))
  · have hlt : i < 64 := by have := of_decide_eq_true c; omega
    refine take_p4 (ks := ks) rfl rfl rfl rfl hlt hks ho.1 ho.2 n9' n5 (by omega) fun e'' w'' c44 c2 c4 c5 c9 c43 x3 r9 r5 => ?_
    refine ⟨⟨i + 1, by omega, c44, c43, c2, c4, c5, c9, hx.trans x3, r9, r5⟩, ?_⟩
    rw [c44]
    show 64 - ((i + 1 : Nat) : Int).toNat < 64 - (i : Int).toNat
    omega
  · have h64 : i = 64 := by have := of_decide_eq_false c; omega
    subst h64
    refine take_p2 (s := s) (v := (rnd ks s rs 64).1) (c4 := c4) rfl rfl rfl hs ho.1 (q2.ext hx (by omega)) (q4.ext hx (by omega)) n9' l4 d24 (by omega) (by omega) fun w3 x3 => hk w3 ?_
    have t : Ext (fun k => k = w.heap.size ∨ k = b2 ∨ k = b4 ∨ k = b5) w w3 := (Ext.no x12).trans ((hx.mono fun k _ h => by omega).trans (x3.mono fun k _ h => by omega))
    exact t.mono fun k hk h => by omega
end Go.Px
end
section
set_option linter.unusedVariables false
set_option linter.unusedSimpArgs false
set_option linter.unusedVariables false
set_option maxRecDepth 20000
namespace Go.Px
open Go Go.Proofs
attribute [local irreducible] Do RdNow RdS RdNowN RdSN CallN Drew Draw Loop JoinC
theorem run_shl32 {P : Program} {w : World} (t : TypeId) (x n : Nat) (hn : n ≤ 31 := by omega) : (binOp .shl t (U x) (W n)).run P w = .ok (U (x * 2 ^ n % 4294967296)) w := by
  rw [run_shl _ .u32 .u64 _ _ (by omega)]
  rw [show min (n : Int).toNat IntKind.u32.bits = n by simp only [IntKind.bits]; omega, wrap_u32]
  have h : (x : Int) * 2 ^ n = ((x * 2 ^ n : Nat) : Int) := by rw [Int.natCast_mul, Int.natCast_pow]; rfl
  rw [h]
  generalize x * 2 ^ n = y
  have : (y : Int) % 4294967296 = ((y % 4294967296 : Nat) : Int) := by omega
  rw [this]
theorem run_conv8to32 {P : Program} {w : World} (src dst : TypeId) {c : Nat} (hc : c < 256) (hs : intT P src .u8 = true := by kernel_rfl) (hd : intT P dst .u32 = true := by kernel_rfl) : (convert src dst (Y c)).run P w = .ok (U c) w := by
  rw [run_conv src dst .u32 .u8 _ hs hd, wrap_u32]
  have : (c : Int) % 4294967296 = (c : Int) := by omega
  rw [this]
theorem ring0_get (bs : List Nat) : ∀ i j, i ≤ j → g0 (ring0 bs i) j = 0
  | 0, j, _ => by simp only [ring0, g0, List.getD_eq_getElem?_getD, List.getElem?_replicate]; split <;> rfl
  | i + 1, j, h => by
    show g0 ((ring0 bs i).set i (word4 bs i)) j = 0
    rw [getD_set, if_neg (by omega)]
    exact ring0_get bs i j (by omega)
theorem ring0_len (bs : List Nat) : ∀ i, (ring0 bs i).length = 16
  | 0 => rfl
  | i + 1 => by show ((ring0 bs i).set i (word4 bs i)).length = 16; rw [List.length_set]; exact ring0_len bs i
theorem set_self {l : List Nat} {i : Nat} (h : i < l.length) (x : Nat) (hx : g0 l i = x) : l.set i x = l := by
  subst hx
  apply List.ext_getElem?
  intro j
  rw [List.getElem?_set]
  split
  · rename_i h2
    subst h2
    simp [List.getD_eq_getElem?_getD, h]
  · rfl
theorem foldl_take (p : List Nat) (j : Nat) (h : j < p.length) : (p.take (j + 1)).foldl sh 0 = sh ((p.take j).foldl sh 0) (g0 p j) := by
  rw [List.take_add_one, List.getElem?_eq_getElem h, List.foldl_append]
  simp [List.getD_eq_getElem?_getD, h]
theorem map_drop_take (bs : List Nat) (a b : Nat) : ((bs.map Y).drop a).take b = ((bs.drop a).take b).map Y := by rw [List.map_take, List.map_drop]
theorem take_p6 {next4 : Env → World → Prop} {e : Env} {w : World} {b5 i j x : Nat} {p rs : List Nat} {v : Value} (h25 : e 25 = v) (h27 : e 27 = I j) (h5 : e 5 = A b5 0) (h6 : e 6 = I i)
    (hp : Sl w v 1 4 (p.map Y)) (hp8 : ∀ c ∈ p, c < 256) (hj : j < 4) (hi : i < 16) (hr : rs.length = 16) (m5 : Has w b5 148 ((rs.set i x).map U)) (hx : x < 4294967296)
    (hk : ∀ e' w', e' 27 = I (j + 1 : Nat) → e' 25 = v → e' 26 = e 26 → e' 1 = e 1 → e' 2 = e 2 → e' 4 = e 4 → e' 5 = A b5 0 → e' 6 = I i → e' 16 = e 16 → Ext (fun k => k = b5) w w' → Has w' b5 148 ((rs.set i (sh x (g0 p j))).map U) → next4 e' w') :
    F61_p6 Tryd.prog next4 e w := by
  obtain ⟨e, rfl⟩ := env4 h25 h27 h5 h6
  have hl : p.length = 4 := by have := hp.1; simpa using this
  have hc : g0 p j < 256 := by
    have : g0 p j ∈ p := by
      simp only [g0, List.getD_eq_getElem?_getD, List.getElem?_eq_getElem (show j < p.length by omega), Option.getD_some]
      exact List.getElem_mem _
    exact hp8 _ this
  have hs : (rs.set i x).length = 16 := by rw [List.length_set]; exact hr
  have hg : (rs.set i x).getD i 0 = x := by have := getD_set rs i i x; rw [if_pos ⟨rfl, by omega⟩] at this; exact this
  unfold F61_p6
  refine JoinC_in ?_
  refine Do_idx hp j (fun q hq => ?_)
  obtain ⟨b, o, rfl, -, hr1, hl1⟩ := hq
  have hy := hr1 0 (Y (g0 p j)) (by
    rw [List.getElem?_take, if_pos (by decide), List.getElem?_drop, List.getElem?_map]
    simp [List.getD_eq_getElem?_getD, List.getElem?_eq_getElem (show j < p.length by omega)])
  refine Do_ok (run_ld hy) ?_
  refine Do_ok (run_idxA 16 i) ?_
  refine Do_ok (run_ld m5.nat) ?_
  rw [hg]
  refine Do_ok (run_shl32 _ _ 8) ?_
  refine Do_ok (run_conv8to32 _ _ hc) ?_
  refine Do_ok (run_or32 _ (Nat.mod_lt _ (by decide)) (by omega)) ?_
  refine Do_ok (run_idxA 16 i) ?_
  refine ast m5 (fun w1 x1 q5 => ⟨rfl, ?_⟩)
  refine Do_ok (run_add64 _ _ _) ⟨rfl, hk _ w1 rfl rfl rfl rfl rfl rfl rfl rfl rfl x1 ?_⟩
  rw [List.set_set] at q5
  exact q5
theorem take_p7 {next3 : Env → World → Prop} {e : Env} {w : World} {b5 i n : Nat} {bs : List Nat} {v : Value} (h1 : e 1 = v) (h5 : e 5 = A b5 0) (h16 : e 16 = I i)
    (hb : Sl w v 1 n (bs.map Y)) (hn : 64 ≤ n) (hb8 : ∀ c ∈ bs, c < 256) (hi : i < 16) (hv : v.ownBlock ≠ some b5) (m5 : Has w b5 148 ((ring0 bs i).map U))
    (hk : ∀ e' w', e' 16 = I (i + 1 : Nat) → e' 1 = v → e' 2 = e 2 → e' 4 = e 4 → e' 5 = A b5 0 → Ext (fun k => k = b5) w w' → Has w' b5 148 ((ring0 bs (i + 1)).map U) → next3 e' w') :
    F61_p7 Tryd.prog next3 e w := by
  obtain ⟨e, rfl⟩ := env3 h1 h5 h16
  have hl : bs.length = n := by have := hb.1; simpa using this
  unfold F61_p7
  refine JoinC_in ?_
  refine Do_ok (run_mul64 _ _ _) ?_
  refine Do_ok (run_mul64 _ _ _) ?_
  refine Do_ok (run_add64 _ _ _) ?_
  refine Do_part hb (4 * i) (4 * i + 4) (fun v' hv' hp => ?_)
  have hp : Sl w v' 1 4 (((bs.drop (4 * i)).take 4).map Y) := by
    have e1 : 4 * i + 4 - 4 * i = 4 := by omega
    rw [e1, Nat.mul_one, Nat.mul_one, map_drop_take] at hp
    exact hp
  refine CallN_value (run_len hp) ?_
  have hp8 : ∀ c ∈ (bs.drop (4 * i)).take 4, c < 256 := fun c hc => hb8 c (List.mem_of_mem_drop (List.mem_of_mem_take hc))
  have hpl : ((bs.drop (4 * i)).take 4).length = 4 := by have := hp.1; simpa using this
  have hrl := ring0_len bs i
  have hvb : ∀ b, v'.ownBlock = some b → ¬ b = b5 := fun b hb h => hv (by have e1 : v'.ownBlock = v.ownBlock := hv'; rw [← e1, hb, h])
  refine Loop_in (fun e' w' => ∃ j : Nat, j ≤ 4 ∧ e' 27 = I j ∧ e' 25 = v' ∧ e' 26 = I 4 ∧ e' 1 = v ∧ e' 2 = e 2 ∧ e' 4 = e 4 ∧ e' 5 = A b5 0 ∧ e' 6 = I i ∧ e' 16 = I i ∧ Ext (fun k => k = b5) w w' ∧
      Has w' b5 148 (((ring0 bs i).set i ((((bs.drop (4 * i)).take 4).take j).foldl sh 0)).map U))
    (fun e' _ => 4 - numOf (e' 27)) ⟨0, by omega, rfl, rfl, rfl, rfl, rfl, rfl, rfl, rfl, rfl, Ext.refl _ _, ?_⟩ ?_
  · show Has w b5 _ (((ring0 bs i).set i 0).map U)
    rw [set_self (l := ring0 bs i) (by omega) _ (ring0_get bs i i (Nat.le_refl i))]
    exact m5
  · rintro e' w' ⟨j, hj, i27, i25, i26, i1, i2, i4, i5, i6, i16, hx, n5⟩
    obtain ⟨e', rfl⟩ := env7 i27 i25 i26 i1 i5 i6 i16
    refine Do_ok (run_lss _ _ _ _) ?_
    refine JoinC_in (Cond_split (fun c => ⟨rfl, ?_⟩) (fun c => ⟨rfl, ?_⟩))
    · have hlt : j < 4 := by have := of_decide_eq_true c; omega
      refine take_p6 (rs := ring0 bs i) (v := v') rfl rfl rfl rfl (hp.ext hx hvb) hp8 hlt hi hrl n5 (foldl_sh_lt _ _ (fun c hc => hp8 c (List.mem_of_mem_take hc)) (by decide)) fun e'' w'' c27 c25 c26 c1 c2 c4 c5 c6 c16 x3 q5 => ?_
      rw [← foldl_take _ j (by omega)] at q5
      refine ⟨⟨j + 1, by omega, c27, c25, c26, c1, c2.trans i2, c4.trans i4, c5, c6, c16, hx.trans x3, q5⟩, ?_⟩
      rw [c27]
      show 4 - ((j + 1 : Nat) : Int).toNat < 4 - (j : Int).toNat
      omega
    · have h4 : j = 4 := by have := of_decide_eq_false c; omega
      subst h4
      refine Do_ok (run_add64 _ _ _) ⟨rfl, hk _ w' rfl rfl i2 i4 rfl hx ?_⟩
      rw [List.take_of_length_le (by omega)] at n5
      exact n5
theorem zero8r : zeroT Tryd.prog 148 = some (.agg ((List.replicate 16 0).map U).toArray) := by kernel_rfl
theorem take_call {K : Value → World → Prop} {w : World} {n : Nat} {e0 : TypeId} {ks s bs : List Nat} {v : Value}
    (hG : Has w 0 e0 (ks.map U)) (hks : ks.length = 64) (hs : Ok32 s 8) (hb : Sl w v 1 n (bs.map Y)) (hn : 64 ≤ n) (hb8 : ∀ c ∈ bs, c < 256)
    (hk : ∀ w', Ext No w w' → K (.agg ((takeP ks s bs).map U).toArray) w') :
    CallN Tryd.prog (callS (fnv 61) #[.agg (s.map U).toArray, v]) K w := by
  refine CallN_fn (args := [.agg (s.map U).toArray, v]) (by kernel_rfl) (F61_calls ?_)
  unfold F61
  have g0' := hG.lt
  have hvl := hb.lt (by omega)
  refine Do_boxA (xs := s.map U) fun w1 x1 z1 m2 => ?_
  refine Do_allocA zero8 fun w2 x2 z2 m4 => ?_
  refine Do_allocA zero8r fun w3 x3 z3 m5 => ?_
  have k2 := (m2.ext x2 (fun h => h)).ext x3 (fun h => h)
  have k4 := m4.ext x3 (fun h => h)
  have x : Ext No w w3 := (x1.trans x2).trans x3
  have kb := hb.no x
  have kG := hG.ext x (fun h => h)
  refine JoinC_in ?_
  refine Loop_in (fun e' w' => ∃ i : Nat, i ≤ 16 ∧ e' 16 = I i ∧ e' 1 = v ∧ e' 2 = A w.heap.size 0 ∧ e' 4 = A w1.heap.size 0 ∧ e' 5 = A w2.heap.size 0 ∧ Ext (fun k => k = w2.heap.size) w3 w' ∧
      Has w' w2.heap.size 148 ((ring0 bs i).map U))
    (fun e' _ => 16 - numOf (e' 16)) ⟨0, by omega, rfl, rfl, rfl, rfl, rfl, Ext.refl _ _, m5⟩ ?_
  rintro e' w' ⟨i, hi, i16, i1, i2, i4, i5, hx, n5⟩
  obtain ⟨e', rfl⟩ := env5 i16 i1 i2 i4 i5
  refine Do_ok (run_lss _ _ _ _) ?_
  refine JoinC_in (Cond_split (fun c => ⟨rfl, ?_⟩) (fun c => ⟨rfl, ?_⟩))
  · have hlt : i < 16 := by have := of_decide_eq_true c; omega
    refine take_p7 rfl rfl rfl (kb.ext hx fun b hb h => by have := hvl b hb; omega) hn hb8 hlt (fun h => by have := hvl _ h; omega) n5 fun e'' w'' c16 c1 c2 c4 c5 x4 q5 => ?_
    refine ⟨⟨i + 1, by omega, c16, c1, c2, c4, c5, hx.trans x4, q5⟩, ?_⟩
    rw [c16]
    show 16 - ((i + 1 : Nat) : Int).toNat < 16 - (i : Int).toNat
    omega
  · have h16 : i = 16 := by have := of_decide_eq_false c; omega
    subst h16
    refine take_p5 (ks := ks) (s := s) (rs := ring0 bs 16) (c4 := (List.replicate 8 0).map U) rfl rfl rfl (kG.ext hx (by omega)) hks hs (ok_ring0 hb8 16) (k2.ext hx (by omega)) (k4.ext hx (by omega)) rfl n5 (by omega) (by omega) (by omega) (by omega) fun w4 x4 => ?_
    refine hk w4 ?_
    have t : Ext (fun k => k = w.heap.size ∨ k = w1.heap.size ∨ k = w2.heap.size) w w4 := (Ext.no x).trans ((hx.mono fun k _ h => by omega).trans (x4.mono fun k _ h => by omega))
    exact t.mono fun k hk h => by omega
end Go.Px
end
section
set_option linter.unusedVariables false
set_option linter.unusedSimpArgs false
set_option linter.unusedVariables false
set_option maxRecDepth 20000
namespace Go.Px
open Go Go.Proofs
attribute [local irreducible] Do RdNow RdS RdNowN RdSN CallN Drew Draw Loop JoinC
def firstL : List Nat := [1779033703, 3144134277, 1013904242, 2773480762, 1359893119, 2600822924, 528734635, 1541459225]
theorem ok_first : Ok32 firstL 8 := ⟨rfl, fun j => by
  match j with
  | 0 | 1 | 2 | 3 | 4 | 5 | 6 | 7 => decide
  | j + 8 => simp [firstL, List.getD_eq_getElem?_getD]⟩
theorem first_call {K : Value → World → Prop} {w : World} (hk : ∀ w', Ext No w w' → K (.agg (firstL.map U).toArray) w') : CallN Tryd.prog (callS (fnv 60) #[]) K w := by
  refine CallN_fn (args := []) (by kernel_rfl) (F60_calls ?_)
  unfold F60
  refine Do_allocA zero8 fun w1 x1 z1 m => ?_
  refine Do_ok (run_build _ _ _ _ (built8 _ _ _ _ _ _ _ _)) ?_
  refine Do_storeA (xs := firstL.map U) 8 m rfl rfl rfl fun w2 x2 z2 q => ?_
  exact RdNow_ok (run_cellN q.row (n := 8) (hl := rfl)) (hk w2 (x1.trans_new x2 (fun i hi h => by omega)))
/-- How many zeros. -/
def padK (n : Nat) : Nat := (119 - n % 64) % 64
def lenB (N : Nat) : List Nat := [N / 2 ^ 56 % 256, N / 2 ^ 48 % 256, N / 2 ^ 40 % 256, N / 2 ^ 32 % 256, N / 2 ^ 24 % 256, N / 2 ^ 16 % 256, N / 2 ^ 8 % 256, N / 2 ^ 0 % 256]
def padded (bs : List Nat) : List Nat := bs ++ [128] ++ List.replicate (padK bs.length) 0 ++ lenB (bs.length * 8)
def hashB (ks : List Nat) : Nat → List Nat → List Nat → List Nat
  | 0, s, _ => s
  | m + 1, s, bs => hashB ks m (takeP ks s bs) (bs.drop 64)
def outB (s : List Nat) (i : Nat) : Nat := g0 s (i / 4) / 2 ^ (24 - i % 4 * 8) % 256
def outP (s : List Nat) : List Nat := (List.range 32).map (outB s)
def blocksOf (n : Nat) : Nat := (n + 9 + padK n) / 64
/-- The digest. -/
def sha (ks bs : List Nat) : List Nat := outP (hashB ks (blocksOf bs.length) firstL (padded bs))
theorem padK_mod (n : Nat) : (n + 1 + padK n) % 64 = 56 := by unfold padK; omega
theorem padK_not {n z : Nat} (h : z < padK n) : (n + 1 + z) % 64 ≠ 56 := by unfold padK at h; omega
theorem blocks64 (n : Nat) : n + 9 + padK n = 64 * blocksOf n := by
  have := padK_mod n
  unfold blocksOf
  omega
theorem ok_hashB {ks : List Nat} : ∀ (m : Nat) (s bs : List Nat), Ok32 s 8 → Ok32 (hashB ks m s bs) 8
  | 0, _, _, h => h
  | m + 1, s, bs, h => ok_hashB m _ _ (ok_take h)
theorem outP_len (s : List Nat) : (outP s).length = 32 := by simp [outP]
theorem sha_len (ks bs : List Nat) : (sha ks bs).length = 32 := outP_len _
theorem lenB_lt (N : Nat) : ∀ c ∈ lenB N, c < 256 := fun c hc => by
  simp only [lenB, List.mem_cons, List.not_mem_nil, or_false] at hc
  rcases hc with h | h | h | h | h | h | h | h <;> rw [h] <;> exact Nat.mod_lt _ (by decide)
theorem padded_lt {bs : List Nat} (h : ∀ c ∈ bs, c < 256) : ∀ c ∈ padded bs, c < 256 := fun c hc => by
  unfold padded at hc
  rcases List.mem_append.1 hc with hc | hc
  · rcases List.mem_append.1 hc with hc | hc
    · rcases List.mem_append.1 hc with hc | hc
      · exact h c hc
      · have := List.mem_singleton.1 hc; omega
    · have := List.eq_of_mem_replicate hc; omega
  · exact lenB_lt _ c hc
theorem padded_len (bs : List Nat) : (padded bs).length = 64 * blocksOf bs.length := by
  rw [← blocks64]
  simp [padded, lenB]
  omega
/-- The library's Join of one row: a copy. -/
theorem join1_call {K : Value → World → Prop} {w : World} {n : Nat} {bs : List Nat} {v l sep : Value} (hl : Sl w l 1 1 [v]) (hb : Sl w v 1 n (bs.map Y)) (hn : n ≤ 1000000000)
    (hk : ∀ v' w', w'.ownsRow w.heap.size 5 1 v' n (bs.map Y) → Ext No w w' → K v' w') : CallN Tryd.prog (callS (fnv 59) #[l, sep]) K w := by
  refine CallN_fn (args := [l, sep]) (by kernel_rfl) (F59_calls ?_)
  unfold F59
  refine JoinC_in ?_
  refine CallN_value (run_len hl) ?_
  refine Do_ok (run_eqS_int .eql _ _ _ .i64 _ _ (.inl rfl)) ?_
  refine Cond_split (fun c => by simp at c) (fun c => ⟨rfl, ?_⟩)
  refine JoinC_in ?_
  refine CallN_value (run_len hl) ?_
  refine Do_ok (run_eqS_int .eql _ _ _ .i64 _ _ (.inl rfl)) ?_
  refine Cond_split (fun c => ?_) (fun c => by simp at c)
  refine Do_idx hl 0 (fun q hq => ?_)
  obtain ⟨b, o, rfl, -, hr1, hl1⟩ := hq
  refine Do_ok (run_ld (hr1 0 v rfl)) ?_
  refine append_own (e := 5) (bytes := 1) (base := w.heap.size) (World.ownsRow_nil w w.heap.size 5 1) hb (map_one fun _ => rfl) fun v' w' ho hx _ => ?_
  rw [Nat.zero_add, List.nil_append] at ho
  exact hk v' w' ho (hx.mono fun k _ h => by cases h)
end Go.Px
end
section
set_option linter.unusedVariables false
set_option linter.unusedSimpArgs false
set_option linter.unusedVariables false
set_option maxRecDepth 20000
namespace Go.Px
open Go Go.Proofs
attribute [local irreducible] Do RdNow RdS RdNowN RdSN CallN Drew Draw Loop JoinC
theorem rowY (c : Nat) : rowOf Tryd.prog 22 1 [(0, Y c)] = some [Y c].toArray := by kernel_rfl
/-- A byte behind a row of one's own, as the code has it. -/
theorem append_byte {K : Value → Value → World → Prop} {w w1 : World} {n : Nat} (c : Nat) {v : Value} {xs : List Nat} (hx : Ext No w1 w) (h : w.ownsRow w1.heap.size 5 1 v n (xs.map Y)) (hn : n ≤ 1000000000)
    (hk : ∀ x v' w', w'.ownsRow w1.heap.size 5 1 v' (n + 1) ((xs ++ [c]).map Y) → Ext No w1 w' → K x v' w') :
    Do Tryd.prog (Instr.buildSlice 22 1 #[(0, Y c)]) (fun x w => CallN Tryd.prog (builtin .append #[22, 22] 22 #[false, false] #[v, x]) (K x) w) w := by
  refine Do_row [Y c] (size := 1) (e := 5) (bytes := 1) (rowY c) rfl (fun x w2 ho x2 hb => ?_)
  have hB := hx.size
  have h2 : w2.ownsRow w1.heap.size 5 1 v n (xs.map Y) := Own.ext h x2 (fun _ _ h => h)
  refine append_own (e := 5) (bytes := 1) (base := w1.heap.size) h2 (Sl.of_own ho) rfl (fun v' w3 o3 x3 _ => ?_) (hb := Nat.le_trans hB x2.size)
  refine hk x v' w3 ?_ ((hx.trans x2).trans_new x3 fun i hi e => ?_)
  · rw [List.map_append]; exact o3
  · have := (h2.lt i e.symm).1; omega
def lenV : Value → Nat
  | .slice _ n _ => n
  | _ => 0
theorem Sl.len {w : World} {v : Value} {size n : Nat} {xs : List Value} (h : Sl w v size n xs) : lenV v = n := by
  rcases h.2 with ⟨rfl, h2⟩ | ⟨b, o, c, rfl, _, _⟩
  · exact h2.symm
  · rfl
theorem of_pad {j1 : Env → World → Prop} {e : Env} {w w1 : World} {ws : List Nat} {b2 N n : Nat} {bs : List Nat} {v : Value} (h2 : e 2 = A b2 0) (h3 : e 3 = v) (h4 : e 4 = W N)
    (hx : Ext No w1 w) (hv : w.ownsRow w1.heap.size 5 1 v (n + 1) ((bs ++ [128]).map Y)) (hl : bs.length = n) (hn : n ≤ 10000000)
    (hk : ∀ e' w' v', e' 2 = A b2 0 → e' 3 = v' → e' 4 = W N → Ext No w1 w' → w'.ownsRow w1.heap.size 5 1 v' (n + 1 + padK n) ((bs ++ [128] ++ List.replicate (padK n) 0).map Y) → j1 e' w') :
    Loop ws e w (F31_p6 Tryd.prog j1) := by
  have hp : padK n < 64 := Nat.mod_lt _ (by decide)
  refine Loop_in (fun e' w' => ∃ (z : Nat) (v' : Value), z ≤ padK n ∧ e' 2 = A b2 0 ∧ e' 3 = v' ∧ e' 4 = W N ∧ Ext No w1 w' ∧ w'.ownsRow w1.heap.size 5 1 v' (n + 1 + z) ((bs ++ [128] ++ List.replicate z 0).map Y))
    (fun e' _ => n + 1 + 64 - lenV (e' 3)) ⟨0, v, by omega, h2, h3, h4, hx, by simpa using hv⟩ ?_
  rintro e' w' ⟨z, v', hz, i2, i3, i4, x', o'⟩
  obtain ⟨e', rfl⟩ := env3 i2 i3 i4
  have hs := Sl.of_own o'
  unfold F31_p6
  refine JoinC_in ?_
  refine CallN_value (run_len hs) ?_
  refine Do_ok (run_rem64 _ _ _) ?_
  refine Do_ok (run_eqS_int .neq _ _ _ .i64 _ _ (.inr rfl)) ?_
  refine Cond_split (fun c => ⟨rfl, ?_⟩) (fun c => ⟨rfl, ?_⟩)
  · have hne : (n + 1 + z) % 64 ≠ 56 := by
      have c' : ((((n + 1 + z : Nat) : Int) % 64) != 56) = true := c
      have := bne_iff_ne.1 c'
      omega
    have hlt : z < padK n := by
      have := padK_mod n
      rcases Nat.lt_or_ge z (padK n) with h | h
      · exact h
      · have : z = padK n := by omega
        subst this
        omega
    refine append_byte 0 x' o' (by omega) fun x v'' w'' o2 x2 => ⟨rfl, ⟨z + 1, v'', by omega, rfl, rfl, rfl, x2, ?_⟩, ?_⟩
    · rw [List.append_assoc, ← List.replicate_succ'] at o2
      exact o2
    · show n + 1 + 64 - lenV v'' < n + 1 + 64 - lenV v'
      rw [hs.len, (Sl.of_own o2).len]
      omega
  · have he : (n + 1 + z) % 64 = 56 := by
      have c' : ((((n + 1 + z : Nat) : Int) % 64) != 56) = false := c
      have h2 : (((n + 1 + z : Nat) : Int) % 64) = 56 := by
        cases h3 : decide ((((n + 1 + z : Nat) : Int) % 64) = 56) with
        | true => exact of_decide_eq_true h3
        | false => exact absurd (bne_iff_ne.2 (of_decide_eq_false h3)) (by rw [c']; decide)
      omega
    have hz' : z = padK n := by
      rcases Nat.lt_or_ge z (padK n) with h | h
      · exact absurd he (padK_not h)
      · omega
    subst hz'
    exact hk _ w' v' rfl rfl rfl x' o'
end Go.Px
end
section
set_option linter.unusedVariables false
set_option linter.unusedSimpArgs false
set_option linter.unusedVariables false
set_option maxRecDepth 20000
namespace Go.Px
open Go Go.Proofs
attribute [local irreducible] Do RdNow RdS RdNowN RdSN CallN Drew Draw Loop JoinC
theorem run_shr64 {P : Program} {w : World} (t : TypeId) (N k : Nat) {s : Int} (hs : s = k := by omega) (hk : k ≤ 63 := by omega) : (binOp .shr t (W N) (I s)).run P w = .ok (W (N / 2 ^ k)) w := by
  subst hs
  rw [run_shr _ .u64 .i64 _ _ (by omega)]
  rw [show min (k : Int).toNat IntKind.u64.bits = k by simp only [IntKind.bits]; omega, Int.fdiv_eq_ediv_of_nonneg _ (Int.pow_nonneg (by decide))]
  rfl
theorem run_conv64to8 {P : Program} {w : World} (src dst c : Nat) (hs : intT P src .u64 = true := by kernel_rfl) (hd : intT P dst .u8 = true := by kernel_rfl) : (convert src dst (W c)).run P w = .ok (Y (c % 256)) w := by
  rw [run_conv src dst .u8 .u64 _ hs hd, wrap_u8]
  have : (c : Int) % 256 = ((c % 256 : Nat) : Int) := by omega
  rw [this]
theorem lenB_take (N : Nat) : ∀ j, j < 8 → (lenB N).take (j + 1) = (lenB N).take j ++ [N / 2 ^ (56 - 8 * j) % 256]
  | 0, _ | 1, _ | 2, _ | 3, _ | 4, _ | 5, _ | 6, _ | 7, _ => by simp only [lenB, List.take_succ_cons, List.take_zero, List.cons_append, List.nil_append]
  | j + 8, h => by omega
theorem of_len {j2 : Env → World → Prop} {e : Env} {w w1 : World} {ws : List Nat} {b2 N m : Nat} {ps : List Nat} {v : Value} (h2 : e 2 = A b2 0) (h3 : e 3 = v) (h4 : e 4 = W N) (h5 : e 5 = I 56)
    (hx : Ext No w1 w) (hv : w.ownsRow w1.heap.size 5 1 v m (ps.map Y)) (hm : m ≤ 100000000)
    (hk : ∀ e' w' v', e' 2 = A b2 0 → e' 3 = v' → Ext No w1 w' → w'.ownsRow w1.heap.size 5 1 v' (m + 8) ((ps ++ lenB N).map Y) → j2 e' w') :
    Loop ws e w (fun e11 next3 w => JoinC Tryd.prog (F31_p4 Tryd.prog next3) (fun j9 => Do Tryd.prog (binOp .geq 3 (e11 5) (Value.int .i64 0)) (fun v26 w => Cond v26 (@Eq (List Nat) [] [] ∧ j9 (upd (upd e11 25 (e11 5)) 26 v26) w) (@Eq (List Nat) [] [] ∧ j2 (upd (upd e11 25 (e11 5)) 26 v26) w)) w)) := by
  refine Loop_in (fun e' w' => ∃ (j : Nat) (v' : Value), j ≤ 8 ∧ e' 2 = A b2 0 ∧ e' 3 = v' ∧ e' 4 = W N ∧ e' 5 = I (56 - 8 * (j : Int)) ∧ Ext No w1 w' ∧ w'.ownsRow w1.heap.size 5 1 v' (m + j) ((ps ++ (lenB N).take j).map Y))
    (fun e' _ => m + 9 - lenV (e' 3)) ⟨0, v, by omega, h2, h3, h4, h5, hx, by simpa using hv⟩ ?_
  rintro e' w' ⟨j, v', hj, i2, i3, i4, i5, x', o'⟩
  obtain ⟨e', rfl⟩ := env4 i2 i3 i4 i5
  have hs := Sl.of_own o'
  refine JoinC_in ?_
  refine Do_ok (run_geq _ _ _ _) ?_
  refine Cond_split (fun c => ⟨rfl, ?_⟩) (fun c => ⟨rfl, ?_⟩)
  · have hlt : j < 8 := by have := of_decide_eq_true c; omega
    unfold F31_p4
    refine JoinC_in ?_
    refine Do_ok (run_shr64 _ N (56 - 8 * j)) ?_
    refine Do_ok (run_conv64to8 _ _ _) ?_
    refine append_byte _ x' o' (by omega) fun x v'' w'' o2 x2 => ⟨rfl, ?_⟩
    refine Do_ok (run_sub64 _ _ _) ⟨rfl, ⟨j + 1, v'', by omega, rfl, rfl, rfl, ?_, x2, ?_⟩, ?_⟩
    · show I (56 - 8 * (j : Int) - 8) = I (56 - 8 * ((j + 1 : Nat) : Int))
      congr 1
      omega
    · rw [List.append_assoc, ← lenB_take N j hlt] at o2
      exact o2
    · show m + 9 - lenV v'' < m + 9 - lenV v'
      rw [hs.len, (Sl.of_own o2).len]
      omega
  · have h8 : j = 8 := by have := of_decide_eq_false c; omega
    subst h8
    exact hk _ w' v' rfl rfl x' o'
/-- The blocks. -/
theorem of_blocks {j3 : Env → World → Prop} {e : Env} {w w1 : World} {ws : List Nat} {b2 b6 m n : Nat} {e0 : TypeId} {ks s bs : List Nat} {v : Value} (h2 : e 2 = A b2 0) (h3 : e 3 = v) (h6 : e 6 = A b6 0)
    (hG : Has w1 0 e0 (ks.map U)) (hks : ks.length = 64) (hs : Ok32 s 8) (hb8 : ∀ c ∈ bs, c < 256) (hx : Ext No w1 w) (hv : Sl w v 1 n (bs.map Y)) (hn : n = 64 * m) (hvo : ∀ k, v.ownBlock = some k → k ≠ b6)
    (m6 : Has w b6 111 (s.map U)) (d6 : w1.heap.size ≤ b6)
    (hk : ∀ e' w', e' 2 = A b2 0 → e' 6 = A b6 0 → Ext No w1 w' → Has w' b6 111 ((hashB ks m s bs).map U) → j3 e' w') :
    Loop ws e w (F31_p3 Tryd.prog j3) := by
  refine Loop_in (fun e' w' => ∃ (r : Nat) (v' : Value) (s' bs' : List Nat), hashB ks r s' bs' = hashB ks m s bs ∧ Ok32 s' 8 ∧ (∀ c ∈ bs', c < 256) ∧ e' 2 = A b2 0 ∧ e' 3 = v' ∧ e' 6 = A b6 0 ∧ Ext No w1 w' ∧ Sl w' v' 1 (64 * r) (bs'.map Y) ∧ v'.ownBlock = v.ownBlock ∧ Has w' b6 111 (s'.map U))
    (fun e' _ => lenV (e' 3)) ⟨m, v, s, bs, rfl, hs, hb8, h2, h3, h6, hx, by rw [← hn]; exact hv, rfl, m6⟩ ?_
  rintro e' w' ⟨r, v', s', bs', heq, hs', hb', i2, i3, i6, x', o', hvo', n6⟩
  obtain ⟨e', rfl⟩ := env3 i2 i3 i6
  unfold F31_p3
  refine JoinC_in ?_
  refine CallN_value (run_len o') ?_
  refine Do_ok (run_gtr _ _ _ _) ?_
  refine Cond_split (fun c => ⟨rfl, ?_⟩) (fun c => ⟨rfl, ?_⟩)
  · have hlt : 0 < 64 * r := by have := of_decide_eq_true c; omega
    obtain ⟨r, rfl⟩ : ∃ r', r = r' + 1 := ⟨r - 1, by omega⟩
    refine JoinC_in ?_
    refine Do_ok (run_ldN n6.row 8 (hl := by rw [List.length_map]; exact hs'.1)) ?_
    refine take_call (hG.ext x' (fun h => h)) hks hs' o' (by omega) hb' fun w2 x2 => ?_
    have n6' := n6.ext x2 (fun h => h)
    have o2 := o'.no x2
    refine Do_storeA (xs := (takeP ks s' bs').map U) 8 n6' (by rw [List.length_map]; exact hs'.1) (by rw [List.length_map]; exact (ok_take hs').1) (map_one fun _ => rfl) fun w3 x3 z3 q6 => ⟨rfl, ?_⟩
    have o3 := o2.ext x3 (fun k hk => hvo k (by rw [← hvo']; exact hk))
    refine Do_from o3 64 (fun v3 hv3 p3 => ⟨rfl, ⟨r, v3, takeP ks s' bs', bs'.drop 64, heq, ok_take hs', fun c hc => hb' c (List.mem_of_mem_drop hc), rfl, rfl, rfl, ?_, ?_, ?_, q6⟩, ?_⟩) (h1 := by omega)
    · exact (x'.trans x2).trans_new x3 fun i hi h => by omega
    · have e1 : 64 * (r + 1) - 64 = 64 * r := by omega
      rw [e1, Nat.mul_one, ← List.map_drop] at p3
      exact p3
    · have e1 : v3.ownBlock = v'.ownBlock := hv3
      rw [e1]; exact hvo'
    · show lenV v3 < lenV v'
      rw [p3.len, o'.len]
      omega
  · have h0 : r = 0 := by have := of_decide_eq_false c; omega
    subst h0
    refine hk _ w' rfl rfl x' ?_
    rw [← heq]
    exact n6
end Go.Px
end
section
set_option linter.unusedVariables false
set_option linter.unusedSimpArgs false
set_option linter.unusedVariables false
set_option maxRecDepth 20000
namespace Go.Px
open Go Go.Proofs
attribute [local irreducible] Do RdNow RdS RdNowN RdSN CallN Drew Draw Loop JoinC
theorem zero32 : zeroT Tryd.prog 28 = some (.agg ((List.replicate 32 0).map Y).toArray) := by kernel_rfl
theorem run_shr32i {P : Program} {w : World} (t : TypeId) (x k : Nat) {s : Int} (hs : s = k := by omega) (hk : k ≤ 31 := by omega) : (binOp .shr t (U x) (I s)).run P w = .ok (U (x / 2 ^ k)) w := by
  subst hs
  rw [run_shr _ .u32 .i64 _ _ (by omega)]
  rw [show min (k : Int).toNat IntKind.u32.bits = k by simp only [IntKind.bits]; omega, Int.fdiv_eq_ediv_of_nonneg _ (Int.pow_nonneg (by decide))]
  rfl
theorem run_conv32to8 {P : Program} {w : World} (src dst c : Nat) (hs : intT P src .u32 = true := by kernel_rfl) (hd : intT P dst .u8 = true := by kernel_rfl) : (convert src dst (U c)).run P w = .ok (Y (c % 256)) w := by
  rw [run_conv src dst .u8 .u32 _ hs hd, wrap_u8]
  have : (c : Int) % 256 = ((c % 256 : Nat) : Int) := by omega
  rw [this]
/-- The digest's first bytes. -/
def outF (s : List Nat) : Nat → List Nat
  | 0 => List.replicate 32 0
  | i + 1 => (outF s i).set i (outB s i)
theorem outF_len (s : List Nat) : ∀ i, (outF s i).length = 32
  | 0 => rfl
  | i + 1 => by show ((outF s i).set i (outB s i)).length = 32; rw [List.length_set]; exact outF_len s i
theorem outF_get (s : List Nat) : ∀ i j, i ≤ 32 → j < 32 → (outF s i)[j]? = some (if j < i then outB s j else 0)
  | 0, j, _, hj => by show (List.replicate 32 0)[j]? = _; rw [List.getElem?_replicate, if_pos hj, if_neg (by omega)]
  | i + 1, j, hi, hj => by
    show ((outF s i).set i (outB s i))[j]? = _
    rw [List.getElem?_set]
    by_cases h : i = j
    · subst h
      rw [if_pos rfl, if_pos (by rw [outF_len]; omega), if_pos (by omega)]
    · rw [if_neg h, outF_get s i j (by omega) hj]
      by_cases h2 : j < i
      · rw [if_pos h2, if_pos (by omega)]
      · rw [if_neg h2, if_neg (by omega)]
theorem outF_all (s : List Nat) : outF s 32 = outP s := by
  apply List.ext_getElem?
  intro j
  by_cases hj : j < 32
  · rw [outF_get s 32 j (Nat.le_refl _) hj, if_pos hj]
    simp [outP, hj]
  · rw [List.getElem?_eq_none (by rw [outF_len]; omega), List.getElem?_eq_none (by rw [outP_len]; omega)]
theorem astY {P : Program} {w : World} {U' : Unit → World → Prop} {b j x : Nat} {e t : TypeId} {xs : List Nat} (h : Has w b e (xs.map Y))
    (hk : ∀ w', Ext (fun k => k = b) w w' → Has w' b e ((xs.set j x).map Y) → U' () w') (ht : oneT P t = true := by kernel_rfl) (hj : j < xs.length := by omega) : Do P (Instr.storeAt t (A b j) (Y x)) U' w :=
  Do_store1 ht h (by rw [List.length_map]; exact hj) rfl rfl fun w' e _ h => hk w' e (by rw [List.map_set]; exact h)
theorem of_out {K : Value → World → Prop} {e : Env} {w w1 : World} {b2 b6 : Nat} {s : List Nat} {c2 : List Value} (h2 : e 2 = A b2 0) (h6 : e 6 = A b6 0) (hs : Ok32 s 8) (hx : Ext (fun k => k = b2) w1 w) (d2 : b2 < w1.heap.size)
    (m2 : Has w b2 28 c2) (l2 : c2.length = 32) (m6 : Has w b6 111 (s.map U)) (d : b2 ≠ b6)
    (hk : ∀ w', Ext (fun k => k = b2) w1 w' → K (.agg ((outP s).map Y).toArray) w') : F31_p2 Tryd.prog K e w := by
  obtain ⟨e, rfl⟩ := env2 h2 h6
  have sl := hs.1
  unfold F31_p2
  refine Do_allocA zero32 fun w2 x2 z2 m7 => ?_
  have l6 := m6.lt
  have lb2 := m2.lt
  have hsz := hx.size
  refine JoinC_in ?_
  refine Loop_in (fun e' w' => ∃ i : Nat, i ≤ 32 ∧ e' 45 = I i ∧ e' 2 = A b2 0 ∧ e' 6 = A b6 0 ∧ e' 7 = A w.heap.size 0 ∧ Ext (fun k => k = w.heap.size) w2 w' ∧ Has w' w.heap.size 28 ((outF s i).map Y))
    (fun e' _ => 32 - numOf (e' 45)) ⟨0, by omega, rfl, rfl, rfl, rfl, Ext.refl _ _, m7⟩ ?_
  rintro e' w' ⟨i, hi, i45, i2, i6, i7, x', n7⟩
  obtain ⟨e', rfl⟩ := env4 i45 i2 i6 i7
  have hfl := outF_len s i
  refine Do_ok (run_lss _ _ _ _) ?_
  refine JoinC_in (Cond_split (fun c => ⟨rfl, ?_⟩) (fun c => ⟨rfl, ?_⟩))
  · have hlt : i < 32 := by have := of_decide_eq_true c; omega
    have n6 := (m6.no x2).ext x' (by omega)
    unfold F31_p1
    refine JoinC_in ?_
    refine Do_ok (run_quo64 _ _ _) ?_
    refine Do_ok (run_idxA 8 (i / 4)) ?_
    refine Do_ok (run_ld n6.nat) ?_
    refine Do_ok (run_rem64 _ _ _) ?_
    refine Do_ok (run_mul64 _ _ _) ?_
    refine Do_ok (run_sub64 _ _ _) ?_
    refine Do_ok (run_shr32i _ _ (24 - i % 4 * 8)) ?_
    refine Do_ok (run_conv32to8 _ _ _) ?_
    refine Do_ok (run_idxA 32 i) ?_
    refine astY n7 fun w3 x3 q7 => ⟨rfl, ?_⟩
    refine Do_ok (run_add64 _ _ _) ⟨rfl, ⟨i + 1, by omega, rfl, rfl, rfl, rfl, x'.trans x3, q7⟩, ?_⟩
    show 32 - ((i : Int) + 1).toNat < 32 - (i : Int).toNat
    omega
  · have h32 : i = 32 := by have := of_decide_eq_false c; omega
    subst h32
    refine Do_ok (run_ldN n7.row 32 (hl := by rw [List.length_map]; exact hfl)) ?_
    have n2 := (m2.no x2).ext x' (by omega)
    refine Do_storeA (xs := (outF s 32).map Y) 32 n2 l2 (by rw [List.length_map]; exact hfl) (map_one fun _ => rfl) fun w3 x3 z3 q2 => ?_
    refine RdNow_ok (run_cellN q2.row (n := 32) (hl := by rw [List.length_map]; exact hfl)) ?_
    rw [outF_all]
    refine hk w3 ?_
    exact ((hx.trans (Ext.no x2)).trans_new (x'.mono fun k _ h => h) fun i hi h => by omega).trans x3
theorem run_conv64u {P : Program} {w : World} (src dst : Nat) {n : Nat} (hn : n ≤ 9223372036854775807) (hs : intT P src .i64 = true := by kernel_rfl) (hd : intT P dst .u64 = true := by kernel_rfl) : (convert src dst (I n)).run P w = .ok (W n) w := by
  rw [run_conv src dst .u64 .i64 _ hs hd, wrap_u64 (by omega) (by omega)]
theorem run_mul64u {P : Program} {w : World} (t : TypeId) (a b : Nat) (h : a * b ≤ 18446744073709551615) : (binOp .mul t (W a) (W b)).run P w = .ok (W (a * b)) w := by
  rw [run_num2 .mul t .u64 a b (by simp)]
  have e : ((a : Int) * b) = ((a * b : Nat) : Int) := (Int.natCast_mul a b).symm
  simp only [num2]
  rw [e, wrap_u64 (by omega) (by omega)]
theorem of_len' {j2 : Env → World → Prop} {e : Env} {w w1 : World} {ws : List Nat} {b2 N m : Nat} {ps : List Nat} {v : Value} (h2 : e 2 = A b2 0) (h3 : e 3 = v) (h4 : e 4 = W N) (h5 : e 5 = I 56)
    (hx : Ext No w1 w) (hv : w.ownsRow w1.heap.size 5 1 v m (ps.map Y)) (hm : m ≤ 100000000)
    (hk : ∀ e' w' v', e' 2 = A b2 0 → e' 3 = v' → Ext No w1 w' → w'.ownsRow w1.heap.size 5 1 v' (m + 8) ((ps ++ lenB N).map Y) → j2 e' w') :
    JoinC Tryd.prog j2 (fun j2 => Loop ws e w (fun e11 next3 w => JoinC Tryd.prog (F31_p4 Tryd.prog next3) (fun j9 => Do Tryd.prog (binOp .geq 3 (e11 5) (Value.int .i64 0)) (fun v26 w => Cond v26 (@Eq (List Nat) [] [] ∧ j9 (upd (upd e11 25 (e11 5)) 26 v26) w) (@Eq (List Nat) [] [] ∧ j2 (upd (upd e11 25 (e11 5)) 26 v26) w)) w))) :=
  JoinC_in (of_len h2 h3 h4 h5 hx hv hm hk)
/-- The digest of one row. -/
theorem of_call {K : Value → World → Prop} {w : World} {n : Nat} {e0 : TypeId} {ks bs : List Nat} {v l : Value} (hG : Has w 0 e0 (ks.map U)) (hks : ks.length = 64)
    (hl : Sl w l 1 1 [v]) (hb : Sl w v 1 n (bs.map Y)) (hb8 : ∀ c ∈ bs, c < 256) (hn : n ≤ 1000000)
    (hk : ∀ w', Ext No w w' → K (.agg ((sha ks bs).map Y).toArray) w') : CallN Tryd.prog (callS (fnv 31) #[l]) K w := by
  refine CallN_fn (args := [l]) (by kernel_rfl) (F31_calls ?_)
  unfold F31
  have hbl : bs.length = n := by have := hb.1; simpa using this
  refine Do_allocA zero32 fun w1 x1 z1 m2 => ?_
  refine join1_call (hl.no x1) (hb.no x1) (by omega) fun v1 w2 o1 x2 => ?_
  refine CallN_value (run_len (Sl.of_own o1)) ?_
  refine Do_ok (run_conv64u _ _ (by omega)) ?_
  refine Do_ok (run_mul64u _ n 8 (by omega)) ?_
  refine append_byte 128 x2 o1 (by omega) fun x v2 w3 o2 x3 => ?_
  unfold F31_p5
  refine JoinC_in ?_
  refine of_pad (b2 := w.heap.size) (N := n * 8) rfl rfl rfl x3 o2 hbl (by omega) fun e4 w4 v4 a2 a3 a4 x4 o4 => ?_
  have hp : padK n < 64 := Nat.mod_lt _ (by decide)
  refine of_len' (e := upd e4 5 _) (b2 := w.heap.size) (N := n * 8) a2 a3 a4 rfl x4 o4 (by omega) fun e5 w5 v5 c2 c3 x5 o5 => ?_
  refine first_call fun w6 x6 => ?_
  refine Do_allocA zero8 fun w7 x7 z7 m6 => ?_
  refine Do_storeA (xs := firstL.map U) 8 m6 rfl rfl rfl fun w8 x8 z8 q6 => ?_
  have hpe : bs ++ [128] ++ List.replicate (padK n) 0 ++ lenB (n * 8) = padded bs := by unfold padded; rw [hbl]
  rw [hpe] at o5
  have h5 := x5.size
  have h6 := x6.size
  have x17 : Ext No w1 w7 := (x5.trans x6).trans x7
  have x18 : Ext No w1 w8 := x17.trans_new x8 fun i hi h => by omega
  have k5 : Sl w8 v5 1 (n + 1 + padK n + 8) ((padded bs).map Y) := (((Sl.of_own o5).no x6).no x7).ext x8 fun k hk h => by have := o5.lt k hk; omega
  refine JoinC_in ?_
  refine of_blocks (e := upd (upd e5 36 _) 6 _) (m := blocksOf bs.length) (s := firstL) (b2 := w.heap.size) (b6 := w6.heap.size) c2 c3 rfl (hG.ext x1 fun h => h) hks ok_first (padded_lt hb8) x18 k5 (by have := blocks64 n; rw [hbl]; omega) (fun k hk h => by have := o5.lt k hk; omega) q6 (by omega) fun e9 w9 d2 d6 x9 n6 => ?_
  have n2 := m2.no x9
  refine of_out (w1 := w1) d2 d6 (ok_hashB _ _ _ ok_first) (Ext.no x9) (by omega) n2 rfl n6 (by omega) fun w10 x10 => hk w10 ?_
  exact x1.trans_new x10 fun i hi h => by omega
end Go.Px
end
section
set_option linter.unusedVariables false
set_option linter.unusedSimpArgs false
set_option linter.unusedVariables false
set_option maxRecDepth 20000
namespace Go.Px
open Go Go.Proofs
/-- The rounds' numbers. -/
def ksL : List Nat := [0x428a2f98, 0x71374491, 0xb5c0fbcf, 0xe9b5dba5, 0x3956c25b, 0x59f111f1, 0x923f82a4, 0xab1c5ed5, 0xd807aa98, 0x12835b01, 0x243185be, 0x550c7dc3, 0x72be5d74, 0x80deb1fe, 0x9bdc06a7, 0xc19bf174, 0xe49b69c1, 0xefbe4786, 0x0fc19dc6, 0x240ca1cc, 0x2de92c6f, 0x4a7484aa, 0x5cb0a9dc, 0x76f988da, 0x983e5152, 0xa831c66d, 0xb00327c8, 0xbf597fc7, 0xc6e00bf3, 0xd5a79147, 0x06ca6351, 0x14292967, 0x27b70a85, 0x2e1b2138, 0x4d2c6dfc, 0x53380d13, 0x650a7354, 0x766a0abb, 0x81c2c92e, 0x92722c85, 0xa2bfe8a1, 0xa81a664b, 0xc24b8b70, 0xc76c51a3, 0xd192e819, 0xd6990624, 0xf40e3585, 0x106aa070, 0x19a4c116, 0x1e376c08, 0x2748774c, 0x34b0bcb5, 0x391c0cb3, 0x4ed8aa4a, 0x5b9cca4f, 0x682e6ff3, 0x748f82ee, 0x78a5636f, 0x84c87814, 0x8cc70208, 0x90befffa, 0xa4506ceb, 0xbef9a3f7, 0xc67178f2]
def shaI (bs : List Nat) : Id := ⟨sha ksL bs, sha_len _ _, fun x hx => by
  unfold sha outP at hx
  obtain ⟨i, _, rfl⟩ := List.mem_map.1 hx
  exact Nat.mod_lt _ (by decide)⟩
abbrev G0 (e : TypeId) : Item := (box 0 e (ksL.map U)).r
def B8 (bs : List Nat) : Prop := ∀ c ∈ bs, c < 256
theorem B8.app {a b : List Nat} (h : B8 a) (k : B8 b) : B8 (a ++ b) := fun c hc => (List.mem_append.1 hc).elim (h c) (k c)
theorem B8.cons {x : Nat} {a : List Nat} (h : x < 256) (k : B8 a) : B8 (x :: a) := fun c hc => by rcases List.mem_cons.1 hc with rfl | hc; exact h; exact k c hc
theorem B8.nil : B8 [] := fun c h => nomatch h
theorem Id.b8 (x : Id) : B8 x.l := x.lt
theorem B8.piece {bs : List Nat} (h : B8 bs) (c i : Nat) : B8 (pieceL bs c i) := fun x hx => h x (List.mem_of_mem_drop (List.mem_of_mem_take hx))
section
variable {K : Value → World → Prop} {L : List Item} {w : World}
theorem of_ok {e0 : TypeId} {v : Value} {bs : List Nat} {sv : SV} (hs : St L w) (hG : G0 e0 ∈ L) (hl : RowIn ESV v [sv] L) (hb : RowIn EY sv.1 bs L) (h8 : B8 bs) (hn : bs.length ≤ 1000000) (hk : ∀ w, St L w → K (EId.val (shaI bs)) w) :
    CallN Tryd.prog (callS (fnv 31) #[v]) K w := by
  have h1 := hl w hs
  have h2 := hb w hs
  have h3 : Sl w sv.1 1 bs.length (bs.map Y) := by
    have h4 : Sl w sv.1 1 bs.length (bs.flatMap EY.f) := h2
    have h5 : bs.flatMap EY.f = bs.map Y := flat_one Y bs
    rwa [h5] at h4
  refine of_call (hs.hasR hG) (by rfl) h1 h3 h8 hn fun w' g => hk w' (hs.no g)
end
attribute [local irreducible] Do RdNow RdS RdNowN RdSN CallN Drew Draw Loop JoinC obj own rows at' old Item.r many
variable {K : Value → World → Prop} {L : List Item} {w : World}
abbrev T8 : Nat := 5
theorem below_ok {v : Value} {bs : List Nat} (hs : St L w) (hb : rows EY v bs ∈ L) (hn : bs.length ≤ 1000000) (hk : ∀ v' w, St (own EY T8 v' (0 :: bs) :: L) w → K v' w) : CallN Tryd.prog (callS (fnv 56) #[v]) K w := by
  refine CallN_fn (args := [v]) (by kernel_rfl) (F56_calls ?_)
  unfold F56
  refine st_row1 (E := EY) (e := T8) (bytes := 1) (x := 0) hs fun v3 w hs _ => ?_
  refine st_append (E := EY) (e := T8) (bytes := 1) (xs := [0]) (ys := bs) hs (RowIn.of (by repeat (first | assumption | exact List.Mem.head _ | exact List.mem_append_left _ (by assumption) | apply List.Mem.tail))) (fun v4 w hs => ?_) (List.Perm.refl _)
  exact hk _ _ hs
theorem grow_ok {n : Nat} (hs : St L w) (hn : n ≤ 1000000000) (hk : ∀ v' w, St (own EY T8 v' [] :: L) w → K v' w) : CallN Tryd.prog (callS (fnv 90) #[NoSl, I n]) K w := by
  refine CallN_fn (args := [NoSl, I n]) (by kernel_rfl) (F90_calls ?_)
  unfold F90
  refine JoinC_in ?_
  refine Do_y hs (Yd.lss _ _ _ _) ?_
  refine Cond_false ?_
  refine ⟨(rfl : @Eq (List Nat) _ _), ?_⟩
  unfold F90_p1
  refine JoinC_in ?_
  refine CallN_y hs (Yd.capS) ?_
  refine CallN_y hs (Yd.lenS) ?_
  refine Do_y hs (Yd.sub _ _ _) ?_
  refine Do_y hs (Yd.sub _ _ _) ?_
  refine Do_y hs (Yd.gtr _ _ _ _) ?_
  refine Cond_dec (fun h => ?_) (fun h => ?_)
  · refine CallN_y hs (Yd.capS) ?_
    refine Do_y hs (Yd.sh (k := 1) 0) ?_
    rw [show ((n : Int) - (((0 : Nat) : Int) - ((0 : Nat) : Int))) = ((n : Nat) : Int) by omega]
    refine st_zeros (E := EY) (e := T8) (bytes := 1) hs (by omega) (fun g cap cur w h1 h2 h3 hs => ?_)
    refine CallN_y hs (Yd.lenS) ?_
    refine Do_y hs (Yd.sh (k := 1) 0) ?_
    rw [sliced_at (by omega)]
    refine ⟨(rfl : @Eq (List Nat) _ _), ?_⟩
    exact hk _ _ (own_close (E := EY) (ys := []) hs rfl (Nat.zero_le _) h2 h3 (by simp))
  · refine ⟨(rfl : @Eq (List Nat) _ _), ?_⟩
    exact hk _ _ hs.nil
theorem flatten_take {α : Type} (xss : List (List α)) (i : Nat) (xs : List α) (h : xss[i]? = some xs) : (xss.take (i + 1)).flatten = (xss.take i).flatten ++ xs := by
  have hi := (List.getElem?_eq_some_iff.1 h).1
  rw [List.take_succ_eq_append_getElem hi, List.flatten_append, (List.getElem?_eq_some_iff.1 h).2]
  simp
theorem flatten_le {α : Type} (xss : List (List α)) (i : Nat) : (xss.take i).flatten.length ≤ xss.flatten.length := by
  have h : xss.flatten = (xss.take i).flatten ++ (xss.drop i).flatten := by rw [← List.flatten_append, List.take_append_drop]
  rw [h, List.length_append]
  omega
theorem concat_ok {v : Value} {svs : List SV} {xss : List (List Nat)} (hs : St L w) (hv : rows ESV v svs ∈ L) (hm : many EY svs xss ∈ L) (hn : xss.length ≤ 1000000) (hf : xss.flatten.length ≤ 1000000) (hk : ∀ v' w, St (own EY T8 v' xss.flatten :: L) w → K v' w) :
    CallN Tryd.prog (callS (fnv 73) #[v]) K w := by
  refine CallN_fn (args := [v]) (by kernel_rfl) (F73_calls ?_)
  unfold F73
  have hsl := many_len hs hm
  refine JoinC_in ?_
  refine CallN_y hs (Yd.len (RowIn.of (by repeat (first | assumption | exact List.Mem.head _ | apply List.Mem.tail)))) ?_
  refine Loop_in (fun e w => ∃ i : Nat, i ≤ svs.length ∧ e 11 = I i ∧ e 10 = I svs.length ∧ e 9 = v ∧ e 0 = v ∧ e 3 = I ((xss.take i).flatten.length : Nat) ∧ St L w) (fun e _ => svs.length - numOf (e 11)) ⟨0, by omega, rfl, rfl, rfl, rfl, rfl, hs⟩ ?_
  rintro e w ⟨i, hi, e11, e10, e9, e0, e3, hs⟩
  obtain ⟨e, rfl⟩ := env5 e11 e10 e9 e0 e3
  have hfl := flatten_le xss i
  refine Do_y hs (Yd.lss _ _ _ _) ?_
  refine JoinC_in ?_
  refine Cond_dec (fun h => ?_) (fun h => ?_)
  · refine ⟨(rfl : @Eq (List Nat) _ _), ?_⟩
    obtain ⟨sv, hsv⟩ : ∃ x, svs[i]? = some x := ⟨svs[i]'(by omega), List.getElem?_eq_getElem (by omega)⟩
    obtain ⟨xs, hxs⟩ : ∃ x, xss[i]? = some x := ⟨xss[i]'(by omega), List.getElem?_eq_getElem (by omega)⟩
    have hft := flatten_take xss i xs hxs
    have hfl2 := flatten_le xss (i + 1)
    rw [hft, List.length_append] at hfl2
    unfold F73_p2
    refine JoinC_in ?_
    refine Do_idx' hs (RowIn.of (by repeat (first | assumption | exact List.Mem.head _ | exact List.mem_append_left _ (by assumption) | apply List.Mem.tail))) i sv hsv fun b o g => ?_
    refine Do_y hs (Yd.ty (by assumption)) ?_
    have hs := many_row hs hm hsv hxs
    refine CallN_y hs (Yd.len (RowIn.of (by repeat (first | assumption | exact List.Mem.head _ | apply List.Mem.tail)))) ?_
    refine Do_y hs (Yd.add _ _ _) ?_
    refine Do_y hs (Yd.lss _ _ _ _) ?_
    refine Cond_false ?_
    refine ⟨(rfl : @Eq (List Nat) _ _), ?_⟩
    refine Do_y hs (Yd.add _ _ _) ?_
    refine ⟨(rfl : @Eq (List Nat) _ _), ?_⟩
    refine ⟨⟨i + 1, by omega, rfl, rfl, rfl, rfl, ?_, hs.drop⟩, ?_⟩
    · rw [hft, List.length_append]; rfl
    · show svs.length - ((i : Int) + 1).toNat < svs.length - (i : Int).toNat
      omega
  · refine ⟨(rfl : @Eq (List Nat) _ _), ?_⟩
    have hin : i = xss.length := by omega
    rw [hin, List.take_length]
    refine grow_ok hs (by omega) fun v24 w hs => ?_
    refine JoinC_in ?_
    refine CallN_y hs (Yd.len (RowIn.of (by repeat (first | assumption | exact List.Mem.head _ | apply List.Mem.tail)))) ?_
    refine Loop_in (fun e w => ∃ (j : Nat) (u : Value), j ≤ svs.length ∧ e 27 = I j ∧ e 26 = I svs.length ∧ e 25 = v ∧ e 6 = u ∧ St (own EY T8 u (xss.take j).flatten :: L) w) (fun e _ => svs.length - numOf (e 27)) ⟨0, v24, by omega, rfl, rfl, rfl, rfl, hs⟩ ?_
    rintro e w ⟨j, u, hj, e27, e26, e25, e6, hs⟩
    obtain ⟨e, rfl⟩ := env4 e27 e26 e25 e6
    unfold F73_p1
    refine Do_y hs (Yd.lss _ _ _ _) ?_
    refine JoinC_in ?_
    refine Cond_dec (fun h => ?_) (fun h => ?_)
    · refine ⟨(rfl : @Eq (List Nat) _ _), ?_⟩
      refine JoinC_in ?_
      obtain ⟨sv, hsv⟩ : ∃ x, svs[j]? = some x := ⟨svs[j]'(by omega), List.getElem?_eq_getElem (by omega)⟩
      obtain ⟨xs, hxs⟩ : ∃ x, xss[j]? = some x := ⟨xss[j]'(by omega), List.getElem?_eq_getElem (by omega)⟩
      have hft := flatten_take xss j xs hxs
      have hfl2 := flatten_le xss (j + 1)
      rw [hft, List.length_append] at hfl2
      refine Do_idx' hs (RowIn.of (by repeat (first | assumption | exact List.Mem.head _ | exact List.mem_append_left _ (by assumption) | apply List.Mem.tail))) j sv hsv fun b o g => ?_
      refine Do_y hs (Yd.ty (by assumption)) ?_
      have hs := (many_row hs (E := EY) (by repeat (first | assumption | exact List.Mem.head _ | exact List.mem_append_left _ (by assumption) | apply List.Mem.tail)) hsv hxs).swap
      refine st_append (E := EY) (e := T8) (bytes := 1) hs (RowIn.of (by repeat (first | assumption | exact List.Mem.head _ | exact List.mem_append_left _ (by assumption) | apply List.Mem.tail))) (fun v4 w hs => ?_) (List.Perm.refl _) (hm := by omega) (hm2 := by omega)
      refine ⟨(rfl : @Eq (List Nat) _ _), ?_⟩
      refine Do_y hs (Yd.add _ _ _) ?_
      refine ⟨(rfl : @Eq (List Nat) _ _), ?_⟩
      rw [← hft] at hs
      refine ⟨⟨j + 1, v4, by omega, rfl, rfl, rfl, rfl, hs.swap.drop⟩, ?_⟩
      show svs.length - ((j : Int) + 1).toNat < svs.length - (j : Int).toNat
      omega
    · refine ⟨(rfl : @Eq (List Nat) _ _), ?_⟩
      have hin : j = xss.length := by omega
      rw [hin, List.take_length] at hs
      exact hk _ _ hs
end Go.Px
end
section
set_option linter.unusedVariables false
set_option linter.unusedSimpArgs false
set_option linter.unusedVariables false
set_option maxRecDepth 20000
namespace Go.Px
open Go Go.Proofs
attribute [local irreducible] Do RdNow RdS RdNowN RdSN CallN Drew Draw Loop JoinC obj own rows at' old Item.r many
variable {K : Value → World → Prop} {L : List Item} {w : World}
def pairL (a b : Id) : List Nat := 1 :: (a.l ++ b.l)
theorem pairL_len (a b : Id) : (pairL a b).length = 65 := by simp [pairL, a.len, b.len]
theorem pairL_b8 (a b : Id) : B8 (pairL a b) := .cons (by decide) (a.b8.app b.b8)
theorem pair_ok {a b : Id} (hs : St L w) (hk : ∀ v' w, St (own EY T8 v' (pairL a b) :: L) w → K v' w) : CallN Tryd.prog (callS (fnv 58) #[EId.val a, EId.val b]) K w := by
  refine CallN_fn (args := [EId.val a, EId.val b]) (by kernel_rfl) (F58_calls ?_)
  unfold F58
  refine st_boxE hs fun b1 w hs => ?_
  have hs := hs.freeze .here
  refine st_boxE hs fun b2 w hs => ?_
  have hs := hs.freeze .here
  refine Drew_st hs fun w hs => ?_
  refine Draw_st hs [] (by repeat (first | exact List.nil_sublist _ | exact List.Sublist.refl _ | exact List.sublist_append_left _ _ | apply List.Sublist.cons_cons | apply List.Sublist.cons)) ?_
  refine RdS_y (Yd.slA) ?_
  refine RdS_y (Yd.slA) ?_
  refine st_row1 (E := EY) (e := T8) (bytes := 1) (x := 1) hs fun v5 w hs _ => ⟨hs.sub (by repeat (first | exact List.nil_sublist _ | exact List.Sublist.refl _ | exact List.sublist_append_left _ _ | apply List.Sublist.cons_cons | apply List.Sublist.cons)), ?_⟩
  have hv5 := own_sv hs (List.Mem.head _)
  have hs := hs.fix .here
  have hs := row_of_id (x := a) (b := b1) (e := 28) hs (by repeat (first | assumption | exact List.Mem.head _ | exact List.mem_append_left _ (by assumption) | apply List.Mem.tail))
  have hs := row_of_id (x := b) (b := b2) (e := 28) hs (by repeat (first | assumption | exact List.Mem.head _ | exact List.mem_append_left _ (by assumption) | apply List.Mem.tail))
  have hs := many_nil (E := EY) hs
  have hs := many_add (sv := ⟨v5, hv5⟩) (xs := [1]) hs (List.Mem.head _) (by repeat (first | assumption | exact List.Mem.head _ | exact List.mem_append_left _ (by assumption) | apply List.Mem.tail))
  have hs := many_add (sv := ⟨SL b1 0 32 32, rfl, rfl⟩) (xs := a.l) hs (List.Mem.head _) (by repeat (first | assumption | exact List.Mem.head _ | exact List.mem_append_left _ (by assumption) | apply List.Mem.tail))
  have hs := many_add (sv := ⟨SL b2 0 32 32, rfl, rfl⟩) (xs := b.l) hs (List.Mem.head _) (by repeat (first | assumption | exact List.Mem.head _ | exact List.mem_append_left _ (by assumption) | apply List.Mem.tail))
  refine st_rowL (E := ESV) (e := TB) (bytes := 24) [⟨v5, hv5⟩, ⟨SL b1 0 32 32, rfl, rfl⟩, ⟨SL b2 0 32 32, rfl, rfl⟩] hs fun v8 w hs _ => ?_
  have hs := hs.fix .here
  refine concat_ok (xss := [[1], a.l, b.l]) hs (by repeat (first | assumption | exact List.Mem.head _ | exact List.mem_append_left _ (by assumption) | apply List.Mem.tail)) (by repeat (first | assumption | exact List.Mem.head _ | exact List.mem_append_left _ (by assumption) | apply List.Mem.tail)) (by simp) (by simp [a.len, b.len]) fun v9 w hs => ?_
  have e1 : ([[1], a.l, b.l] : List (List Nat)).flatten = pairL a b := by simp [pairL]
  rw [e1] at hs
  exact hk _ _ (hs.sub (by repeat (first | exact List.nil_sublist _ | exact List.Sublist.refl _ | exact List.sublist_append_left _ _ | apply List.Sublist.cons_cons | apply List.Sublist.cons)))
def leL (n : Nat) : List Nat := (List.range 8).map fun i => n / 2 ^ (8 * i) % 256
def crownL (n : Nat) (a : Id) : List Nat := 2 :: (leL n ++ a.l)
theorem leL_b8 (n : Nat) : B8 (leL n) := fun c hc => by
  obtain ⟨i, _, rfl⟩ := List.mem_map.1 hc
  exact Nat.mod_lt _ (by decide)
theorem crownL_len (n : Nat) (a : Id) : (crownL n a).length = 41 := by simp [crownL, leL, a.len]
theorem crownL_b8 (n : Nat) (a : Id) : B8 (crownL n a) := .cons (by decide) ((leL_b8 n).app a.b8)
theorem crown_ok {n : Nat} {a : Id} (hs : St L w) (hn : n ≤ 1000000000) (hk : ∀ v' w, St (own EY T8 v' (crownL n a) :: L) w → K v' w) : CallN Tryd.prog (callS (fnv 32) #[I n, EId.val a]) K w := by
  refine CallN_fn (args := [I n, EId.val a]) (by kernel_rfl) (F32_calls ?_)
  unfold F32
  refine st_boxE hs fun b1 w hs => ?_
  have hs := hs.freeze .here
  refine st_row1 (E := EY) (e := T8) (bytes := 1) (x := 2) hs fun v5 w hs _ => ?_
  refine JoinC_in ?_
  refine Loop_in (fun e w => ∃ (i : Nat) (u : Value), i ≤ 8 ∧ e 8 = I i ∧ e 5 = u ∧ e 0 = I n ∧ e 3 = A b1 0 ∧ St (own EY T8 u (2 :: (leL n).take i) :: (box b1 28 (EId.f a)).r :: L) w) (fun e _ => 8 - numOf (e 8)) ⟨0, v5, by omega, rfl, rfl, rfl, rfl, hs⟩ ?_
  rintro e w ⟨i, u, hi, e8, e5, e0, e3, hs⟩
  obtain ⟨e, rfl⟩ := env4 e8 e5 e0 e3
  have hll : (leL n).length = 8 := by simp [leL]
  refine Do_y hs (Yd.lss _ _ _ _) ?_
  refine JoinC_in ?_
  refine Cond_dec (fun h => ?_) (fun h => ?_)
  · refine ⟨(rfl : @Eq (List Nat) _ _), ?_⟩
    unfold F32_p1
    refine JoinC_in ?_
    refine Do_y hs (Yd.cNW _ _ _) ?_
    refine Do_y hs (Yd.mul _ _ _) ?_
    refine Do_y hs (Yd.shrW _ n (8 * i)) ?_
    refine Do_y hs (Yd.cWY _ _) ?_
    refine st_row1 (E := EY) (e := T8) (bytes := 1) (x := n / 2 ^ (8 * i) % 256) hs fun v6 w hs _ => ?_
    have hs := hs.pull 1 rfl; try simp only [List.nil_append, List.cons_append, List.eraseIdx_cons_succ, List.eraseIdx_cons_zero] at hs
    refine st_append (E := EY) (e := T8) (bytes := 1) (ys := [n / 2 ^ (8 * i) % 256]) hs (RowIn.own (e := T8) (by repeat (first | assumption | exact List.Mem.head _ | exact List.mem_append_left _ (by assumption) | apply List.Mem.tail))) (fun v7 w hs => ?_) (List.Perm.refl _)
    refine ⟨(rfl : @Eq (List Nat) _ _), ?_⟩
    refine Do_y hs (Yd.add _ _ _) ?_
    refine ⟨(rfl : @Eq (List Nat) _ _), ?_⟩
    have hg : (leL n)[i]? = some (n / 2 ^ (8 * i) % 256) := by unfold leL; rw [List.getElem?_map, List.getElem?_range (by omega)]; rfl
    have ht : 2 :: (leL n).take i ++ [n / 2 ^ (8 * i) % 256] = 2 :: (leL n).take (i + 1) := by
      rw [List.take_succ_eq_append_getElem (by omega), (List.getElem?_eq_some_iff.1 hg).2]; rfl
    rw [ht] at hs
    refine ⟨⟨i + 1, v7, by omega, rfl, rfl, rfl, rfl, hs.sub (by repeat (first | exact List.nil_sublist _ | exact List.Sublist.refl _ | exact List.sublist_append_left _ _ | apply List.Sublist.cons_cons | apply List.Sublist.cons))⟩, ?_⟩
    show 8 - ((i : Int) + 1).toNat < 8 - (i : Int).toNat
    omega
  · refine ⟨(rfl : @Eq (List Nat) _ _), ?_⟩
    refine Do_y hs (Yd.slA) ?_
    have h8 : i = 8 := by omega
    subst h8
    rw [List.take_of_length_le (by omega)] at hs
    have hs := row_of_id (x := a) (b := b1) (e := 28) hs (by repeat (first | assumption | exact List.Mem.head _ | exact List.mem_append_left _ (by assumption) | apply List.Mem.tail))
    skip
    have hs := hs.pull 1 rfl; try simp only [List.nil_append, List.cons_append, List.eraseIdx_cons_succ, List.eraseIdx_cons_zero] at hs
    refine st_append (E := EY) (e := T8) (bytes := 1) (ys := a.l) hs (RowIn.of (by repeat (first | assumption | exact List.Mem.head _ | exact List.mem_append_left _ (by assumption) | apply List.Mem.tail))) (fun v7 w hs => ?_) (List.Perm.refl _) (hm := by simp [hll, a.len]) (hm2 := by simp [hll, a.len])
    exact hk _ _ (hs.sub (by repeat (first | exact List.nil_sublist _ | exact List.Sublist.refl _ | exact List.sublist_append_left _ _ | apply List.Sublist.cons_cons | apply List.Sublist.cons)))
/-- The leaves' digests. -/
def digL (bs : List Nat) : List Id := (splitL bs).map fun l => shaI (0 :: l)
theorem splitL_len (bs : List Nat) : (splitL bs).length ≤ bs.length + 1 := by
  unfold splitL
  split
  · simp
  · rw [List.length_map, List.length_range]; unfold piecesN; omega
theorem splitL_mem {bs l : List Nat} (h : l ∈ splitL bs) : l.length ≤ 64 ∧ (B8 bs → B8 l) := by
  unfold splitL at h
  split at h
  · simp only [List.mem_singleton] at h
    subst h
    exact ⟨by simp, fun _ => B8.nil⟩
  · obtain ⟨i, _, rfl⟩ := List.mem_map.1 h
    exact ⟨by rw [pieceL_len]; omega, fun h => h.piece _ _⟩
theorem digests_ok {e0 : TypeId} {v : Value} {bs : List Nat} (hs : St L w) (hG : G0 e0 ∈ L) (hx : rows EY v bs ∈ L) (h8 : B8 bs) (hn : bs.length ≤ 100000) (hk : ∀ v' w, St (own EId 28 v' (digL bs) :: L) w → K v' w) :
    CallN Tryd.prog (callS (fnv 29) #[v]) K w := by
  refine CallN_fn (args := [v]) (by kernel_rfl) (F29_calls ?_)
  unfold F29
  refine JoinC_in ?_
  refine split_ok hs hx (by omega) fun v7 svs w hs => ?_
  have hsl := many_len hs (E := EY) (svs := svs) (xss := splitL bs) (by repeat (first | assumption | exact List.Mem.head _ | exact List.mem_append_left _ (by assumption) | apply List.Mem.tail))
  have hle := splitL_len bs
  refine CallN_y hs (Yd.len (RowIn.own (by repeat (first | assumption | exact List.Mem.head _ | apply List.Mem.tail)))) ?_
  have hs := hs.nil (E := EId) (e := 28)
  refine Loop_in (fun e w => ∃ (i : Nat) (u : Value), i ≤ svs.length ∧ e 9 = I i ∧ e 8 = I svs.length ∧ e 7 = v7 ∧ e 3 = u ∧ St (own EId 28 u ((digL bs).take i) :: own ESV TB v7 svs :: many EY svs (splitL bs) :: L) w) (fun e _ => svs.length - numOf (e 9)) ⟨0, NoSl, by omega, rfl, rfl, rfl, rfl, hs⟩ ?_
  rintro e w ⟨i, u, hi, e9, e8, e7, e3, hs⟩
  obtain ⟨e, rfl⟩ := env4 e9 e8 e7 e3
  have hdl : (digL bs).length = (splitL bs).length := by simp [digL]
  refine Do_y hs (Yd.lss _ _ _ _) ?_
  refine JoinC_in ?_
  refine Cond_dec (fun h => ?_) (fun h => ?_)
  · refine ⟨(rfl : @Eq (List Nat) _ _), ?_⟩
    unfold F29_p1
    refine JoinC_in ?_
    obtain ⟨sv, hsv⟩ : ∃ x, svs[i]? = some x := ⟨svs[i]'(by omega), List.getElem?_eq_getElem (by omega)⟩
    obtain ⟨l, hl⟩ : ∃ x, (splitL bs)[i]? = some x := ⟨(splitL bs)[i]'(by omega), List.getElem?_eq_getElem (by omega)⟩
    have hlm := splitL_mem (List.mem_of_getElem? hl)
    refine Do_idx' hs (RowIn.own (e := TB) (by repeat (first | assumption | exact List.Mem.head _ | exact List.mem_append_left _ (by assumption) | apply List.Mem.tail))) i sv hsv fun b o g => ?_
    refine Do_y hs (Yd.ty (by assumption)) ?_
    have hs := many_row hs (E := EY) (xss := splitL bs) (by repeat (first | assumption | exact List.Mem.head _ | exact List.mem_append_left _ (by assumption) | apply List.Mem.tail)) hsv hl
    refine below_ok hs (List.Mem.head _) (by omega) fun v15 w hs => ?_
    have hv15 := own_sv hs (List.Mem.head _)
    refine st_row1 (E := ESV) (e := TB) (bytes := 24) (x := ⟨v15, hv15⟩) hs fun v16 w hs _ => ?_
    refine of_ok (e0 := e0) (sv := ⟨v15, hv15⟩) (bs := 0 :: l) hs (by simp [hG]) (RowIn.own (e := TB) (by repeat (first | assumption | exact List.Mem.head _ | exact List.mem_append_left _ (by assumption) | apply List.Mem.tail))) (RowIn.own (e := T8) (by repeat (first | assumption | exact List.Mem.head _ | exact List.mem_append_left _ (by assumption) | apply List.Mem.tail))) (.cons (by decide) (hlm.2 h8)) (by rw [List.length_cons]; omega) fun w hs => ?_
    refine st_row1 (E := EId) (e := 28) (bytes := 32) (x := shaI (0 :: l)) hs fun v18 w hs _ => ?_
    have hs := hs.pull 4 rfl; try simp only [List.nil_append, List.cons_append, List.eraseIdx_cons_succ, List.eraseIdx_cons_zero] at hs
    refine st_append (E := EId) (e := 28) (bytes := 32) (ys := [shaI (0 :: l)]) hs (RowIn.own (e := 28) (by repeat (first | assumption | exact List.Mem.head _ | exact List.mem_append_left _ (by assumption) | apply List.Mem.tail))) (fun v7 w hs => ?_) (List.Perm.refl _) (hm := by rw [List.length_take]; simp only [List.length_singleton]; omega) (hm2 := by rw [List.length_take]; simp only [List.length_singleton]; omega)
    refine ⟨(rfl : @Eq (List Nat) _ _), ?_⟩
    refine Do_y hs (Yd.add _ _ _) ?_
    refine ⟨(rfl : @Eq (List Nat) _ _), ?_⟩
    have hg : (digL bs)[i]? = some (shaI (0 :: l)) := by unfold digL; rw [List.getElem?_map, hl]; rfl
    have ht : (digL bs).take i ++ [shaI (0 :: l)] = (digL bs).take (i + 1) := by
      rw [List.take_succ_eq_append_getElem (by omega), (List.getElem?_eq_some_iff.1 hg).2]
    rw [ht] at hs
    refine ⟨⟨i + 1, _, by omega, rfl, rfl, rfl, rfl, hs.sub (by repeat (first | exact List.nil_sublist _ | exact List.Sublist.refl _ | exact List.sublist_append_left _ _ | apply List.Sublist.cons_cons | apply List.Sublist.cons))⟩, ?_⟩
    show svs.length - ((i : Int) + 1).toNat < svs.length - (i : Int).toNat
    omega
  · refine ⟨(rfl : @Eq (List Nat) _ _), ?_⟩
    have hin : i = (digL bs).length := by omega
    rw [hin, List.take_length] at hs
    exact hk _ _ (hs.sub (by repeat (first | exact List.nil_sublist _ | exact List.Sublist.refl _ | exact List.sublist_append_left _ _ | apply List.Sublist.cons_cons | apply List.Sublist.cons)))
end Go.Px
end
