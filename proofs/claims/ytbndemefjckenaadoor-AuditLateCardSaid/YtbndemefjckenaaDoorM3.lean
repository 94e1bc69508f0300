/- Of our own, laid together by program: Functions of the program as predicate transformers (laid by gen.py). Functions of the program as predicate transformers (laid by gen.py). Functions of the program as predicate transformers (laid by gen.py). Functions of the program as predicate transformers (laid by gen.py). -/
import Derived.Test.YtbndemefjckenaaDoorM2
section
set_option linter.unusedVariables false
set_option linter.unusedSimpArgs false
set_option linter.unusedVariables false
set_option maxRecDepth 20000
namespace Go.Px
open Go Go.Proofs
def F17_p1 (P : Program) (next1 : Env → World → Prop) (e6 : Env) (w : World) : Prop :=
  JoinC P (fun e7 w => Do P (binOp .add 3 (e7 17) (Value.int .i64 1)) (fun v158 w => @Eq (List Nat) [] [] ∧ next1 (upd (upd (upd e7 157 (e7 17)) 158 v158) 17 v158) w) w) (fun j6 => Do P (binOp .mul 3 (Value.int .i64 4) (e6 17)) (fun v160 w => Do P (Instr.indexAt 111 (e6 3) (e6 17)) (fun v162 w => Do P (Instr.loadAt 110 v162) (fun v163 w => Do P (binOp .quo 110 v163 (Value.int .u32 16777216)) (fun v164 w => Do P (convert 110 5 v164) (fun v165 w => Do P (Instr.indexAt 28 (e6 16) v160) (fun v166 w => Do P (Instr.storeAt 5 v166 v165) (fun _ w => Do P (binOp .mul 3 (Value.int .i64 4) (e6 17)) (fun v168 w => Do P (binOp .add 3 v168 (Value.int .i64 1)) (fun v169 w => Do P (Instr.indexAt 111 (e6 3) (e6 17)) (fun v171 w => Do P (Instr.loadAt 110 v171) (fun v172 w => Do P (binOp .quo 110 v172 (Value.int .u32 65536)) (fun v173 w => Do P (convert 110 5 v173) (fun v174 w => Do P (Instr.indexAt 28 (e6 16) v169) (fun v175 w => Do P (Instr.storeAt 5 v175 v174) (fun _ w => Do P (binOp .mul 3 (Value.int .i64 4) (e6 17)) (fun v177 w => Do P (binOp .add 3 v177 (Value.int .i64 2)) (fun v178 w => Do P (Instr.indexAt 111 (e6 3) (e6 17)) (fun v180 w => Do P (Instr.loadAt 110 v180) (fun v181 w => Do P (binOp .quo 110 v181 (Value.int .u32 256)) (fun v182 w => Do P (convert 110 5 v182) (fun v183 w => Do P (Instr.indexAt 28 (e6 16) v178) (fun v184 w => Do P (Instr.storeAt 5 v184 v183) (fun _ w => Do P (binOp .mul 3 (Value.int .i64 4) (e6 17)) (fun v186 w => Do P (binOp .add 3 v186 (Value.int .i64 3)) (fun v187 w => Do P (Instr.indexAt 111 (e6 3) (e6 17)) (fun v189 w => Do P (Instr.loadAt 110 v189) (fun v190 w => Do P (convert 110 5 v190) (fun v191 w => Do P (Instr.indexAt 28 (e6 16) v187) (fun v192 w => Do P (Instr.storeAt 5 v192 v191) (fun _ w => @Eq (List Nat) [] [] ∧ j6 (upd (upd (upd (upd (upd (upd (upd (upd (upd (upd (upd (upd (upd (upd (upd (upd (upd (upd (upd (upd (upd (upd (upd (upd (upd (upd (upd (upd (upd (upd (upd (upd (upd (upd e6 159 (e6 17)) 160 v160) 161 (e6 17)) 162 v162) 163 v163) 164 v164) 165 v165) 166 v166) 167 (e6 17)) 168 v168) 169 v169) 170 (e6 17)) 171 v171) 172 v172) 173 v173) 174 v174) 175 v175) 176 (e6 17)) 177 v177) 178 v178) 179 (e6 17)) 180 v180) 181 v181) 182 v182) 183 v183) 184 v184) 185 (e6 17)) 186 v186) 187 v187) 188 (e6 17)) 189 v189) 190 v190) 191 v191) 192 v192) w) w) w) w) w) w) w) w) w) w) w) w) w) w) w) w) w) w) w) w) w) w) w) w) w) w) w) w) w) w) w)

def F17_p2 (P : Program) (K : Value → World → Prop) (e3 : Env) (w : World) : Prop :=
  Do P (Instr.alloc 28 true (Value.tuple #[])) (fun v16 w => JoinC P (fun e4 w => Do P (Instr.loadAt 28 (e4 16)) (fun v193 w => Do P (Instr.storeAt 28 (e4 2) v193) (fun _ w => RdNow P (cellS 28 (e4 2)) w (fun vr0 => K vr0 w)) w) w) (fun j4 => Loop [155, 156, 159, 160, 161, 162, 163, 164, 165, 166, 167, 168, 169, 170, 171, 172, 173, 174, 175, 176, 177, 178, 179, 180, 181, 182, 183, 184, 185, 186, 187, 188, 189, 190, 191, 192, 157, 158, 17] (upd (upd e3 16 v16) 17 (Value.int .i64 0)) w (fun e5 next1 w => JoinC P (F17_p1 P next1) (fun j5 => Do P (binOp .lss 3 (e5 17) (Value.int .i64 8)) (fun v156 w => Cond v156 (@Eq (List Nat) [] [] ∧ j5 (upd (upd e5 155 (e5 17)) 156 v156) w) (@Eq (List Nat) [] [] ∧ j4 (upd (upd e5 155 (e5 17)) 156 v156) w)) w)))) w

def F17_p3 (P : Program) (next3 : Env → World → Prop) (e13 : Env) (w : World) : Prop :=
  JoinC P (fun e14 w => Do P (binOp .add 3 (e14 15) (Value.int .i64 1)) (fun v144 w => @Eq (List Nat) [] [] ∧ next3 (upd (upd (upd e14 143 (e14 15)) 144 v144) 15 v144) w) w) (fun j11 => Drew (fun w => RdNow P (Instr.indexAt 111 (e13 3) (e13 15)) w (fun v146 => RdNow P (Instr.loadAt 110 v146) w (fun v147 => RdNow P (Instr.indexAt 111 (e13 10) (e13 15)) w (fun v149 => RdNow P (Instr.loadAt 110 v149) w (fun v150 => RdNow P (binOp .add 110 v147 v150) w (fun v151 => RdNow P (Instr.indexAt 111 (e13 3) (e13 15)) w (fun v152 => Do P (Instr.storeAt 110 v152 v151) (fun _ w => @Eq (List Nat) [] [] ∧ j11 (upd (upd (upd (upd (upd (upd (upd (upd e13 145 (e13 15)) 146 v146) 147 v147) 148 (e13 15)) 149 v149) 150 v150) 151 v151) 152 v152) w) w))))))) w)

def F17_p4 (P : Program) (next2 : Env → World → Prop) (e10 : Env) (w : World) : Prop :=
  JoinC P (fun e11 w => Do P (Instr.sliceAt 9 (e11 4) (some (Value.int .i64 64)) none none) (fun v154 w => @Eq (List Nat) [] [] ∧ next2 (upd (upd (upd e11 153 (e11 4)) 154 v154) 4 v154) w) w) (fun j9 => Loop [141, 142, 145, 146, 147, 148, 149, 150, 151, 152, 143, 144, 15] (upd e10 15 (Value.int .i64 0)) w (fun e12 next3 w => JoinC P (F17_p3 P next3) (fun j10 => Do P (binOp .lss 3 (e12 15) (Value.int .i64 8)) (fun v142 w => Cond v142 (@Eq (List Nat) [] [] ∧ j10 (upd (upd e12 141 (e12 15)) 142 v142) w) (@Eq (List Nat) [] [] ∧ j9 (upd (upd e12 141 (e12 15)) 142 v142) w)) w)))

def F17_p5 (P : Program) (j13 : Env → World → Prop) (e18 : Env) (w : World) : Prop :=
  Do P (Instr.indexAt 111 (e18 10) (Value.int .i64 4)) (fun v132 w => Do P (Instr.loadAt 110 v132) (fun v133 w => Do P (binOp .add 110 v133 (e18 12)) (fun v135 w => Do P (Instr.indexAt 111 (e18 10) (Value.int .i64 4)) (fun v136 w => Do P (Instr.storeAt 110 v136 v135) (fun _ w => Do P (binOp .add 110 (e18 12) (e18 13)) (fun v139 w => Do P (Instr.indexAt 111 (e18 10) (Value.int .i64 0)) (fun v140 w => Do P (Instr.storeAt 110 v140 v139) (fun _ w => @Eq (List Nat) [] [] ∧ j13 (upd (upd (upd (upd (upd (upd (upd (upd (upd e18 132 v132) 133 v133) 134 (e18 12)) 135 v135) 136 v136) 137 (e18 12)) 138 (e18 13)) 139 v139) 140 v140) w) w) w) w) w) w) w) w) w

def F17_p6 (P : Program) (next5 : Env → World → Prop) (e20 : Env) (w : World) : Prop :=
  JoinC P (fun e21 w => Do P (binOp .sub 3 (e21 14) (Value.int .i64 1)) (fun v125 w => @Eq (List Nat) [] [] ∧ next5 (upd (upd (upd e21 124 (e21 14)) 125 v125) 14 v125) w) w) (fun j16 => Do P (binOp .sub 3 (e20 14) (Value.int .i64 1)) (fun v128 w => Do P (Instr.indexAt 111 (e20 10) v128) (fun v129 w => Do P (Instr.loadAt 110 v129) (fun v130 w => Do P (Instr.indexAt 111 (e20 10) (e20 14)) (fun v131 w => Do P (Instr.storeAt 110 v131 v130) (fun _ w => @Eq (List Nat) [] [] ∧ j16 (upd (upd (upd (upd (upd (upd e20 126 (e20 14)) 127 (e20 14)) 128 v128) 129 v129) 130 v130) 131 v131) w) w) w) w) w) w)

def F17_p7 (P : Program) (next4 : Env → World → Prop) (e16 : Env) (w : World) : Prop :=
  JoinC P (fun e17 w => Do P (binOp .add 3 (e17 11) (Value.int .i64 1)) (fun v57 w => @Eq (List Nat) [] [] ∧ next4 (upd (upd (upd e17 56 (e17 11)) 57 v57) 11 v57) w) w) (fun j13 => Drew (fun w => Draw (fun S1 w => RdS P (S1 0) (Instr.indexAt 111 (e16 10) (Value.int .i64 7)) (fun v58 => RdS P (S1 0) (Instr.loadAt 110 v58) (fun v59 => RdS P (S1 0) (Instr.indexAt 111 (e16 10) (Value.int .i64 4)) (fun v60 => RdS P (S1 0) (Instr.loadAt 110 v60) (fun v61 => RdS P (S1 0) (Instr.indexAt 111 (e16 10) (Value.int .i64 4)) (fun v63 => RdS P (S1 0) (Instr.loadAt 110 v63) (fun v64 => RdS P (S1 0) (Instr.indexAt 111 (e16 10) (Value.int .i64 4)) (fun v67 => RdS P (S1 0) (Instr.loadAt 110 v67) (fun v68 => RdS P (S1 0) (Instr.indexAt 111 (e16 10) (Value.int .i64 4)) (fun v72 => RdS P (S1 0) (Instr.loadAt 110 v72) (fun v73 => RdS P (S1 0) (Instr.indexAt 111 (e16 10) (Value.int .i64 5)) (fun v74 => RdS P (S1 0) (Instr.loadAt 110 v74) (fun v75 => RdS P (S1 0) (binOp .and 110 v73 v75) (fun v76 => RdS P (S1 0) (Instr.indexAt 111 (e16 10) (Value.int .i64 4)) (fun v77 => RdS P (S1 0) (Instr.loadAt 110 v77) (fun v78 => RdS P (S1 0) (Op.unary .xor v78) (fun v79 => RdS P (S1 0) (Instr.indexAt 111 (e16 10) (Value.int .i64 6)) (fun v80 => RdS P (S1 0) (Instr.loadAt 110 v80) (fun v81 => RdS P (S1 0) (binOp .and 110 v79 v81) (fun v82 => RdS P (S1 0) (binOp .xor 110 v76 v82) (fun v83 => RdS P (S1 0) (Instr.indexAt 112 (e16 8) (e16 11)) (fun v86 => RdS P (S1 0) (Instr.loadAt 110 v86) (fun v87 => RdS P (S1 0) (Instr.indexAt 112 (e16 9) (e16 11)) (fun v90 => RdS P (S1 0) (Instr.loadAt 110 v90) (fun v91 => CallN P (callS (fnv 47) #[v61, (Value.int .i64 6)]) (fun v62 w => S1 0 w ∧ (CallN P (callS (fnv 47) #[v64, (Value.int .i64 11)]) (fun v65 w => S1 0 w ∧ (RdS P (S1 0) (binOp .xor 110 v62 v65) (fun v66 => CallN P (callS (fnv 47) #[v68, (Value.int .i64 25)]) (fun v69 w => S1 0 w ∧ (RdNow P (binOp .xor 110 v66 v69) w (fun v70 => RdNow P (binOp .add 110 v59 v70) w (fun v71 => RdNow P (binOp .add 110 v71 v83) w (fun v84 => RdNow P (binOp .add 110 v84 v87) w (fun v88 => RdNow P (binOp .add 110 v88 v91) w (fun v92 => Drew (fun w => Draw (fun S2 w => RdS P (S2 0) (Instr.indexAt 111 (e16 10) (Value.int .i64 0)) (fun v93 => RdS P (S2 0) (Instr.loadAt 110 v93) (fun v94 => RdS P (S2 0) (Instr.indexAt 111 (e16 10) (Value.int .i64 0)) (fun v96 => RdS P (S2 0) (Instr.loadAt 110 v96) (fun v97 => RdS P (S2 0) (Instr.indexAt 111 (e16 10) (Value.int .i64 0)) (fun v100 => RdS P (S2 0) (Instr.loadAt 110 v100) (fun v101 => RdS P (S2 0) (Instr.indexAt 111 (e16 10) (Value.int .i64 0)) (fun v104 => RdS P (S2 0) (Instr.loadAt 110 v104) (fun v105 => RdS P (S2 0) (Instr.indexAt 111 (e16 10) (Value.int .i64 1)) (fun v106 => RdS P (S2 0) (Instr.loadAt 110 v106) (fun v107 => RdS P (S2 0) (binOp .and 110 v105 v107) (fun v108 => RdS P (S2 0) (Instr.indexAt 111 (e16 10) (Value.int .i64 0)) (fun v109 => RdS P (S2 0) (Instr.loadAt 110 v109) (fun v110 => RdS P (S2 0) (Instr.indexAt 111 (e16 10) (Value.int .i64 2)) (fun v111 => RdS P (S2 0) (Instr.loadAt 110 v111) (fun v112 => RdS P (S2 0) (binOp .and 110 v110 v112) (fun v113 => RdS P (S2 0) (binOp .xor 110 v108 v113) (fun v114 => RdS P (S2 0) (Instr.indexAt 111 (e16 10) (Value.int .i64 1)) (fun v115 => RdS P (S2 0) (Instr.loadAt 110 v115) (fun v116 => RdS P (S2 0) (Instr.indexAt 111 (e16 10) (Value.int .i64 2)) (fun v117 => RdS P (S2 0) (Instr.loadAt 110 v117) (fun v118 => RdS P (S2 0) (binOp .and 110 v116 v118) (fun v119 => RdS P (S2 0) (binOp .xor 110 v114 v119) (fun v120 => CallN P (callS (fnv 47) #[v94, (Value.int .i64 2)]) (fun v95 w => S2 0 w ∧ (CallN P (callS (fnv 47) #[v97, (Value.int .i64 13)]) (fun v98 w => S2 0 w ∧ (RdS P (S2 0) (binOp .xor 110 v95 v98) (fun v99 => CallN P (callS (fnv 47) #[v101, (Value.int .i64 22)]) (fun v102 w => S2 0 w ∧ (RdNow P (binOp .xor 110 v99 v102) w (fun v103 => RdNow P (binOp .add 110 v103 v120) w (fun v121 => JoinC P (F17_p5 P j13) (fun j14 => Loop [122, 123, 126, 127, 128, 129, 130, 131, 124, 125, 14] (upd (upd (upd (upd (upd (upd (upd (upd (upd (upd (upd (upd (upd (upd (upd (upd (upd (upd (upd (upd (upd (upd (upd (upd (upd (upd (upd (upd (upd (upd (upd (upd (upd (upd (upd (upd (upd (upd (upd (upd (upd (upd (upd (upd (upd (upd (upd (upd (upd (upd (upd (upd (upd (upd (upd (upd (upd (upd (upd (upd (upd (upd (upd (upd (upd (upd (upd e16 58 v58) 59 v59) 60 v60) 61 v61) 63 v63) 64 v64) 67 v67) 68 v68) 72 v72) 73 v73) 74 v74) 75 v75) 76 v76) 77 v77) 78 v78) 79 v79) 80 v80) 81 v81) 82 v82) 83 v83) 85 (e16 11)) 86 v86) 87 v87) 89 (e16 11)) 90 v90) 91 v91) 62 v62) 65 v65) 66 v66) 69 v69) 70 v70) 71 v71) 84 v84) 88 v88) 92 v92) 12 v92) 93 v93) 94 v94) 96 v96) 97 v97) 100 v100) 101 v101) 104 v104) 105 v105) 106 v106) 107 v107) 108 v108) 109 v109) 110 v110) 111 v111) 112 v112) 113 v113) 114 v114) 115 v115) 116 v116) 117 v117) 118 v118) 119 v119) 120 v120) 95 v95) 98 v98) 99 v99) 102 v102) 103 v103) 121 v121) 13 v121) 14 (Value.int .i64 7)) w (fun e19 next5 w => JoinC P (F17_p6 P next5) (fun j15 => Do P (binOp .gtr 3 (e19 14) (Value.int .i64 0)) (fun v123 w => Cond v123 (@Eq (List Nat) [] [] ∧ j15 (upd (upd e19 122 (e19 14)) 123 v123) w) (@Eq (List Nat) [] [] ∧ j14 (upd (upd e19 122 (e19 14)) 123 v123) w)) w))))))) w))) w)) w)))))))))))))))))))))))) w) w))))))) w))) w)) w))))))))))))))))))))))))) w) w)

def F17_p8 (P : Program) (next2 : Env → World → Prop) (e9 : Env) (w : World) : Prop :=
  Do P (Instr.sliceAt 9 (e9 4) none (some (Value.int .i64 64)) none) (fun v51 w => CallN P (callS (fnv 46) #[v51]) (fun v52 w => Do P (Instr.alloc 112 true (Value.tuple #[])) (fun v9 w => Do P (Instr.storeAt 112 v9 v52) (fun _ w => Do P (Instr.loadAt 111 (e9 3)) (fun v53 w => Do P (Instr.alloc 111 true (Value.tuple #[])) (fun v10 w => Do P (Instr.storeAt 111 v10 v53) (fun _ w => JoinC P (F17_p4 P next2) (fun j8 => Loop [54, 55, 58, 59, 60, 61, 62, 63, 64, 65, 66, 67, 68, 69, 70, 71, 72, 73, 74, 75, 76, 77, 78, 79, 80, 81, 82, 83, 84, 85, 86, 87, 88, 89, 90, 91, 92, 12, 93, 94, 95, 96, 97, 98, 99, 100, 101, 102, 103, 104, 105, 106, 107, 108, 109, 110, 111, 112, 113, 114, 115, 116, 117, 118, 119, 120, 121, 13, 14, 122, 123, 126, 127, 128, 129, 130, 131, 124, 125, 132, 133, 134, 135, 136, 137, 138, 139, 140, 56, 57, 11] (upd (upd (upd (upd (upd (upd (upd e9 50 (e9 4)) 51 v51) 52 v52) 9 v9) 53 v53) 10 v10) 11 (Value.int .i64 0)) w (fun e15 next4 w => JoinC P (F17_p7 P next4) (fun j12 => Do P (binOp .lss 3 (e15 11) (Value.int .i64 64)) (fun v55 w => Cond v55 (@Eq (List Nat) [] [] ∧ j12 (upd (upd e15 54 (e15 11)) 55 v55) w) (@Eq (List Nat) [] [] ∧ j8 (upd (upd e15 54 (e15 11)) 55 v55) w)) w)))) w) w) w) w) w) w) w

def F17_p9 (P : Program) (K : Value → World → Prop) (e2 : Env) (w : World) : Prop :=
  Do P (binOp .add 9 (e2 4) (e2 6)) (fun v46 w => CallN P (callS (fnv 45) #[]) (fun v47 w => Do P (Instr.alloc 112 true (Value.tuple #[])) (fun v8 w => Do P (Instr.storeAt 112 v8 v47) (fun _ w => JoinC P (F17_p2 P K) (fun j3 => Loop [48, 49, 50, 51, 52, 9, 53, 10, 11, 54, 55, 58, 59, 60, 61, 62, 63, 64, 65, 66, 67, 68, 69, 70, 71, 72, 73, 74, 75, 76, 77, 78, 79, 80, 81, 82, 83, 84, 85, 86, 87, 88, 89, 90, 91, 92, 12, 93, 94, 95, 96, 97, 98, 99, 100, 101, 102, 103, 104, 105, 106, 107, 108, 109, 110, 111, 112, 113, 114, 115, 116, 117, 118, 119, 120, 121, 13, 14, 122, 123, 126, 127, 128, 129, 130, 131, 124, 125, 132, 133, 134, 135, 136, 137, 138, 139, 140, 56, 57, 15, 141, 142, 145, 146, 147, 148, 149, 150, 151, 152, 143, 144, 153, 154, 4] (upd (upd (upd (upd (upd (upd e2 44 (e2 4)) 45 (e2 6)) 46 v46) 4 v46) 47 v47) 8 v8) w (fun e8 next2 w => JoinC P (F17_p8 P next2) (fun j7 => Do P (eqS .neq 9 false true (e8 4) (Value.string ⟨#[]⟩)) (fun v49 w => Cond v49 (@Eq (List Nat) [] [] ∧ j7 (upd (upd e8 48 (e8 4)) 49 v49) w) (@Eq (List Nat) [] [] ∧ j3 (upd (upd e8 48 (e8 4)) 49 v49) w)) w)))) w) w) w) w

def F17_p10 (P : Program) (next6 : Env → World → Prop) (e23 : Env) (w : World) : Prop :=
  JoinC P (fun e24 w => Do P (binOp .add 3 (e24 7) (Value.int .i64 1)) (fun v34 w => @Eq (List Nat) [] [] ∧ next6 (upd (upd (upd e24 33 (e24 7)) 34 v34) 7 v34) w) w) (fun j18 => Do P (binOp .rem 23 (e23 5) (Value.int .u64 256)) (fun v36 w => Do P (convert 23 5 v36) (fun v37 w => Do P (Instr.buildSlice 22 1 #[(0, v37)]) (fun v38 w => Do P (convert 22 9 v38) (fun v39 w => Do P (binOp .add 9 v39 (e23 6)) (fun v41 w => Do P (binOp .quo 23 (e23 5) (Value.int .u64 256)) (fun v43 w => @Eq (List Nat) [] [] ∧ j18 (upd (upd (upd (upd (upd (upd (upd (upd (upd (upd (upd e23 35 (e23 5)) 36 v36) 37 v37) 38 v38) 39 v39) 40 (e23 6)) 41 v41) 6 v41) 42 (e23 5)) 43 v43) 5 v43) w) w) w) w) w) w) w)

def F17_p11 (P : Program) (K : Value → World → Prop) (e1 : Env) (w : World) : Prop :=
  CallN P (builtin .len #[9] 3 #[false] #[(e1 0)]) (fun v28 w => Do P (convert 3 23 v28) (fun v29 w => Do P (binOp .mul 23 v29 (Value.int .u64 8)) (fun v30 w => JoinC P (F17_p9 P K) (fun j2 => Loop [31, 32, 35, 36, 37, 38, 39, 40, 41, 6, 42, 43, 5, 33, 34, 7] (upd (upd (upd (upd (upd (upd (upd e1 27 (e1 0)) 28 v28) 29 v29) 30 v30) 5 v30) 6 (Value.string ⟨#[]⟩)) 7 (Value.int .i64 0)) w (fun e22 next6 w => JoinC P (F17_p10 P next6) (fun j17 => Do P (binOp .lss 3 (e22 7) (Value.int .i64 8)) (fun v32 w => Cond v32 (@Eq (List Nat) [] [] ∧ j17 (upd (upd e22 31 (e22 7)) 32 v32) w) (@Eq (List Nat) [] [] ∧ j2 (upd (upd e22 31 (e22 7)) 32 v32) w)) w)))) w) w) w

def F17_p12 (P : Program) (j1 : Env → World → Prop) (e25 : Env) (next7 : Env → World → Prop) (w : World) : Prop :=
  JoinC P (fun e26 w => Do P (binOp .add 9 (e26 4) (Value.string ⟨#[0]⟩)) (fun v26 w => @Eq (List Nat) [] [] ∧ next7 (upd (upd (upd e26 25 (e26 4)) 26 v26) 4 v26) w) w) (fun j19 => CallN P (builtin .len #[9] 3 #[false] #[(e25 4)]) (fun v22 w => Do P (binOp .rem 3 v22 (Value.int .i64 64)) (fun v23 w => Do P (eqS .neq 3 false true v23 (Value.int .i64 56)) (fun v24 w => Cond v24 (@Eq (List Nat) [] [] ∧ j19 (upd (upd (upd (upd e25 21 (e25 4)) 22 v22) 23 v23) 24 v24) w) (@Eq (List Nat) [] [] ∧ j1 (upd (upd (upd (upd e25 21 (e25 4)) 22 v22) 23 v23) 24 v24) w)) w) w) w)

/-- bailee/baileeref02.Of -/
def F17 (P : Program) (K : Value → World → Prop) (v0 : Value) (w : World) : Prop :=
  Do P (Instr.alloc 28 true (Value.tuple #[])) (fun v2 w => Do P (Instr.build 111 #[(0, (Value.int .u32 1779033703)), (1, (Value.int .u32 3144134277)), (2, (Value.int .u32 1013904242)), (3, (Value.int .u32 2773480762)), (4, (Value.int .u32 1359893119)), (5, (Value.int .u32 2600822924)), (6, (Value.int .u32 528734635)), (7, (Value.int .u32 1541459225))]) (fun v18 w => Do P (Instr.alloc 111 true (Value.tuple #[])) (fun v3 w => Do P (Instr.storeAt 111 v3 v18) (fun _ w => Do P (binOp .add 9 v0 (Value.string ⟨#[128]⟩)) (fun v20 w => JoinC P (F17_p11 P K) (fun j1 => Loop [21, 22, 23, 24, 25, 26, 4] (upd (upd (upd (upd (upd (upd (env0 [v0]) 2 v2) 18 v18) 3 v3) 19 v0) 20 v20) 4 v20) w (F17_p12 P j1))) w) w) w) w) w

def H17 : Hints := [(20, true, false, [0, 0, 0, 0, 0, 0, 0, 0, 0, 0, 0, 0, 0, 0, 0, 0, 0, 0, 0, 0, 0, 0, 0, 0, 0, 0, 0, 0, 0, 0, 0, 0, 0, 0, 0, 0], .rd 0 false 0 (.rd 1 false 0 (.rd 2 false 0 (.rd 3 false 0 (.rd 5 false 0 (.rd 6 false 0 (.rd 9 false 0 (.rd 10 false 0 (.rd 14 false 0 (.rd 15 false 0 (.rd 16 false 0 (.rd 17 false 0 (.rd 18 false 0 (.rd 19 false 0 (.rd 20 false 0 (.rd 21 false 0 (.rd 22 false 0 (.rd 23 false 0 (.rd 24 false 0 (.rd 25 false 0 (.rd 27 true 0 (.rd 28 false 0 (.rd 29 false 0 (.rd 31 true 0 (.rd 32 false 0 (.rd 33 false 0 (.ch 4 [0] (.ch 7 [0] (.rd 8 false 0 (.ch 11 [0] (.rd 12 true 0 (.rd 13 true 0 (.rd 26 true 0 (.rd 30 true 0 (.rd 34 true 0 (.rd 35 true 0 (.done))))))))))))))))))))))))))))))))))))), (21, true, false, [0, 0, 0, 0, 0, 0, 0, 0, 0, 0, 0, 0, 0, 0, 0, 0, 0, 0, 0, 0, 0, 0, 0, 0, 0, 0, 0, 0, 0, 0], .rd 0 false 0 (.rd 1 false 0 (.rd 3 false 0 (.rd 4 false 0 (.rd 7 false 0 (.rd 8 false 0 (.rd 11 false 0 (.rd 12 false 0 (.rd 13 false 0 (.rd 14 false 0 (.rd 15 false 0 (.rd 16 false 0 (.rd 17 false 0 (.rd 18 false 0 (.rd 19 false 0 (.rd 20 false 0 (.rd 21 false 0 (.rd 22 false 0 (.rd 23 false 0 (.rd 24 false 0 (.rd 25 false 0 (.rd 26 false 0 (.rd 27 false 0 (.ch 2 [0] (.ch 5 [0] (.rd 6 false 0 (.ch 9 [0] (.rd 10 true 0 (.rd 28 true 0 (.rd 29 true 0 (.done))))))))))))))))))))))))))))))), (31, false, false, [], .rd 0 true 0 (.rd 1 true 0 (.rd 2 true 0 (.rd 3 true 0 (.rd 4 true 0 (.rd 5 true 0 (.rd 6 true 0 (.rd 7 true 0 (.ch 8 [] (.done))))))))))]

theorem F17_eq (K : Value → World → Prop) (v0 : Value) (w : World) : F17 Tryd.prog K v0 w = pt Tryd.prog H17 none Tryd.f17.ntmps (bodyOf Tryd.f17) (RetQ Tryd.prog Tryd.f17.results K) (env0 [v0]) [] w := by kernel_rfl

theorem F17_ok : codeOk cvTryd H17 (bodyOf Tryd.f17) = true := by kernel_rfl

theorem F17_has : Tryd.f17.body.isSome = true ∧ Nat.ble 1 Tryd.f17.ntmps = true := ⟨by kernel_rfl, by kernel_rfl⟩

theorem F17_calls {K : Value → World → Prop} {v0 : Value} {w : World} (h : F17 Tryd.prog K v0 w) : Calls Tryd.prog 17 #[v0] w (Returns K) :=
  calls_of_eq (cv := cvTryd) (H := H17) (fn := Tryd.f17) (args := [v0]) mixedTryd Tryd.func17 F17_has F17_ok (F17_eq K v0 w) h

def F18_p1 (P : Program) (j1 : Env → World → Prop) (e2 : Env) (next1 : Env → World → Prop) (w : World) : Prop :=
  JoinC P (fun e3 w => JoinC P (fun e4 w => Do P (binOp .add 3 (e4 4) (Value.int .i64 1)) (fun v16 w => @Eq (List Nat) [] [] ∧ next1 (upd (upd (upd e4 15 (e4 4)) 16 v16) 4 v16) w) w) (fun j3 => Do P (convert 3 5 (e3 4)) (fun v21 w => Do P (binOp .add 5 (e3 0) v21) (fun v22 w => Do P (Instr.indexAt 22 (e3 3) (e3 4)) (fun v23 w => Do P (Instr.storeAt 5 v23 v22) (fun _ w => @Eq (List Nat) [] [] ∧ j3 (upd (upd (upd (upd (upd (upd (upd e3 17 (e3 3)) 18 (e3 4)) 19 (e3 0)) 20 (e3 4)) 21 v21) 22 v22) 23 v23) w) w) w) w) w)) (fun j2 => CallN P (builtin .len #[22] 3 #[false] #[(e2 3)]) (fun v13 w => Do P (binOp .lss 3 (e2 4) v13) (fun v14 w => Cond v14 (@Eq (List Nat) [] [] ∧ j2 (upd (upd (upd (upd e2 11 (e2 4)) 12 (e2 3)) 13 v13) 14 v14) w) (@Eq (List Nat) [] [] ∧ j1 (upd (upd (upd (upd e2 11 (e2 4)) 12 (e2 3)) 13 v13) 14 v14) w)) w) w)

/-- bailee/baileelaw24.pack -/
def F18 (P : Program) (K : Value → World → Prop) (v0 : Value) (w : World) : Prop :=
  Do P (binOp .and 5 v0 (Value.int .u8 3)) (fun v6 w => Do P (convert 5 3 v6) (fun v7 w => Do P (binOp .mul 3 v7 (Value.int .i64 60)) (fun v8 w => Do P (binOp .add 3 (Value.int .i64 1) v8) (fun v9 w => Do P (Instr.makeSlice 22 v9 v9) (fun v10 w => JoinC P (fun e1 w => K (e1 3) w) (fun j1 => Loop [11, 12, 13, 14, 17, 18, 19, 20, 21, 22, 23, 15, 16, 4] (upd (upd (upd (upd (upd (upd (upd (upd (upd (env0 [v0]) 2 (Value.slice none 0 0)) 5 v0) 6 v6) 7 v7) 8 v8) 9 v9) 10 v10) 3 v10) 4 (Value.int .i64 0)) w (F18_p1 P j1))) w) w) w) w) w

def H18 : Hints := []

theorem F18_eq (K : Value → World → Prop) (v0 : Value) (w : World) : F18 Tryd.prog K v0 w = pt Tryd.prog H18 none Tryd.f18.ntmps (bodyOf Tryd.f18) (RetQ Tryd.prog Tryd.f18.results K) (env0 [v0]) [] w := by kernel_rfl

theorem F18_ok : codeOk cvTryd H18 (bodyOf Tryd.f18) = true := by kernel_rfl

theorem F18_has : Tryd.f18.body.isSome = true ∧ Nat.ble 1 Tryd.f18.ntmps = true := ⟨by kernel_rfl, by kernel_rfl⟩

theorem F18_calls {K : Value → World → Prop} {v0 : Value} {w : World} (h : F18 Tryd.prog K v0 w) : Calls Tryd.prog 18 #[v0] w (Returns K) :=
  calls_of_eq (cv := cvTryd) (H := H18) (fn := Tryd.f18) (args := [v0]) mixedTryd Tryd.func18 F18_has F18_ok (F18_eq K v0 w) h

/-- bailee/baileeref06.Root -/
def F19 (P : Program) (K : Value → World → Prop) (v0 : Value) (w : World) : Prop :=
  Do P (Instr.alloc 28 true (Value.tuple #[])) (fun v2 w => CallN P (callS (fnv 48) #[v0]) (fun v6 w => CallN P (builtin .len #[31] 3 #[false] #[v6]) (fun v8 w => JoinC P (fun e1 w => Do P (Instr.indexAt 31 (e1 3) (Value.int .i64 0)) (fun v16 w => Do P (Instr.loadAt 28 v16) (fun v17 w => CallN P (callS (fnv 50) #[(e1 4), v17]) (fun v18 w => Do P (Instr.storeAt 28 (e1 2) v18) (fun _ w => RdNow P (cellS 28 (e1 2)) w (fun vr0 => K vr0 w)) w) w) w) w) (fun j1 => Loop [9, 10, 11, 12, 13, 3] (upd (upd (upd (upd (upd (upd (upd (env0 [v0]) 2 v2) 5 v0) 6 v6) 3 v6) 7 v6) 8 v8) 4 v8) w (fun e2 next1 w => JoinC P (fun e3 w => CallN P (callS (fnv 49) #[(e3 3)]) (fun v13 w => @Eq (List Nat) [] [] ∧ next1 (upd (upd (upd e3 12 (e3 3)) 13 v13) 3 v13) w) w) (fun j2 => CallN P (builtin .len #[31] 3 #[false] #[(e2 3)]) (fun v10 w => Do P (binOp .gtr 3 v10 (Value.int .i64 1)) (fun v11 w => Cond v11 (@Eq (List Nat) [] [] ∧ j2 (upd (upd (upd e2 9 (e2 3)) 10 v10) 11 v11) w) (@Eq (List Nat) [] [] ∧ j1 (upd (upd (upd e2 9 (e2 3)) 10 v10) 11 v11) w)) w) w)))) w) w) w

def H19 : Hints := []

theorem F19_eq (K : Value → World → Prop) (v0 : Value) (w : World) : F19 Tryd.prog K v0 w = pt Tryd.prog H19 none Tryd.f19.ntmps (bodyOf Tryd.f19) (RetQ Tryd.prog Tryd.f19.results K) (env0 [v0]) [] w := by kernel_rfl

theorem F19_ok : codeOk cvTryd H19 (bodyOf Tryd.f19) = true := by kernel_rfl

theorem F19_has : Tryd.f19.body.isSome = true ∧ Nat.ble 1 Tryd.f19.ntmps = true := ⟨by kernel_rfl, by kernel_rfl⟩

theorem F19_calls {K : Value → World → Prop} {v0 : Value} {w : World} (h : F19 Tryd.prog K v0 w) : Calls Tryd.prog 19 #[v0] w (Returns K) :=
  calls_of_eq (cv := cvTryd) (H := H19) (fn := Tryd.f19) (args := [v0]) mixedTryd Tryd.func19 F19_has F19_ok (F19_eq K v0 w) h

def F20_p1 (P : Program) (j3 : Env → World → Prop) (e5 : Env) (w : World) : Prop :=
  Do P (Instr.fieldAt 54 (e5 1) 1) (fun v41 w => Do P (Instr.loadAt 3 v41) (fun v42 w => Do P (binOp .add 3 v42 (e5 6)) (fun v44 w => Do P (Instr.loadAt 28 (e5 7)) (fun v45 w => Do P (Instr.build 37 #[(0, v44), (1, v45), (2, (e5 8))]) (fun v47 w => Do P (Instr.buildSlice 38 1 #[(0, v47)]) (fun v48 w => CallN P (builtin .append #[38, 38] 38 #[false, false] #[(e5 4), v48]) (fun v49 w => Do P (Instr.fieldAt 54 (e5 1) 1) (fun v51 w => Do P (Instr.loadAt 3 v51) (fun v52 w => Do P (binOp .add 3 v52 (e5 6)) (fun v54 w => Do P (Instr.loadAt 28 (e5 7)) (fun v55 w => Do P (Instr.build 69 #[(0, v54), (1, v55), (2, (e5 8))]) (fun v57 w => Do P (Instr.buildSlice 56 1 #[(0, v57)]) (fun v58 w => CallN P (builtin .append #[56, 56] 56 #[false, false] #[(e5 5), v58]) (fun v59 w => @Eq (List Nat) [] [] ∧ j3 (upd (upd (upd (upd (upd (upd (upd (upd (upd (upd (upd (upd (upd (upd (upd (upd (upd (upd (upd (upd (upd (upd e5 40 (e5 4)) 41 v41) 42 v42) 43 (e5 6)) 44 v44) 45 v45) 46 (e5 8)) 47 v47) 48 v48) 49 v49) 4 v49) 50 (e5 5)) 51 v51) 52 v52) 53 (e5 6)) 54 v54) 55 v55) 56 (e5 8)) 57 v57) 58 v58) 59 v59) 5 v59) w) w) w) w) w) w) w) w) w) w) w) w) w) w) w

def F20_p2 (P : Program) (next1 : Env → World → Prop) (e3 : Env) (w : World) : Prop :=
  JoinC P (fun e4 w => Do P (binOp .add 3 (e4 6) (Value.int .i64 1)) (fun v16 w => @Eq (List Nat) [] [] ∧ next1 (upd (upd (upd e4 15 (e4 6)) 16 v16) 6 v16) w) w) (fun j3 => Do P (Instr.fieldAt 54 (e3 1) 2) (fun v17 w => Do P (Instr.loadAt 5 v17) (fun v18 w => Do P (convert 3 5 (e3 6)) (fun v20 w => Do P (binOp .add 5 v18 v20) (fun v21 w => CallN P (callS (fnv 18) #[v21]) (fun v22 w => Do P (convert 22 9 v22) (fun v23 w => CallN P (callS (fnv 19) #[v23]) (fun v24 w => Do P (Instr.alloc 28 true (Value.tuple #[])) (fun v7 w => Do P (Instr.storeAt 28 v7 v24) (fun _ w => Do P (Instr.fieldAt 54 (e3 1) 2) (fun v25 w => Do P (Instr.loadAt 5 v25) (fun v26 w => Do P (convert 3 5 (e3 6)) (fun v28 w => Do P (binOp .add 5 v26 v28) (fun v29 w => CallN P (callS (fnv 18) #[v29]) (fun v30 w => Do P (convert 22 9 v30) (fun v31 w => CallN P (callS (fnv 51) #[v31]) (fun v32 w => CallN P (builtin .len #[118] 3 #[false] #[v32]) (fun v33 w => JoinC P (F20_p1 P j3) (fun j4 => Do P (eqS .eql 3 false true (e3 6) (Value.int .i64 2)) (fun v35 w => Cond v35 (Do P (Instr.fieldAt 54 (e3 1) 6) (fun v36 w => Do P (Instr.loadAt 23 v36) (fun v37 w => Do P (binOp .rem 23 v37 (Value.int .u64 3)) (fun v38 w => Do P (convert 23 3 v38) (fun v39 w => @Eq (List Nat) [] [] ∧ j4 (upd (upd (upd (upd (upd (upd (upd (upd (upd (upd (upd (upd (upd (upd (upd (upd (upd (upd (upd (upd (upd (upd (upd (upd (upd (upd e3 17 v17) 18 v18) 19 (e3 6)) 20 v20) 21 v21) 22 v22) 23 v23) 24 v24) 7 v7) 25 v25) 26 v26) 27 (e3 6)) 28 v28) 29 v29) 30 v30) 31 v31) 32 v32) 33 v33) 8 v33) 34 (e3 6)) 35 v35) 36 v36) 37 v37) 38 v38) 39 v39) 8 v39) w) w) w) w) w) (@Eq (List Nat) [] [] ∧ j4 (upd (upd (upd (upd (upd (upd (upd (upd (upd (upd (upd (upd (upd (upd (upd (upd (upd (upd (upd (upd (upd e3 17 v17) 18 v18) 19 (e3 6)) 20 v20) 21 v21) 22 v22) 23 v23) 24 v24) 7 v7) 25 v25) 26 v26) 27 (e3 6)) 28 v28) 29 v29) 30 v30) 31 v31) 32 v32) 33 v33) 8 v33) 34 (e3 6)) 35 v35) w)) w)) w) w) w) w) w) w) w) w) w) w) w) w) w) w) w) w) w)

def F20_p3 (P : Program) (j1 : Env → World → Prop) (e2 : Env) (next1 : Env → World → Prop) (w : World) : Prop :=
  JoinC P (F20_p2 P next1) (fun j2 => Do P (Instr.fieldAt 54 (e2 1) 2) (fun v10 w => Do P (Instr.loadAt 5 v10) (fun v11 w => Do P (binOp .and 5 v11 (Value.int .u8 3)) (fun v12 w => Do P (convert 5 3 v12) (fun v13 w => Do P (binOp .lss 3 (e2 6) v13) (fun v14 w => Cond v14 (@Eq (List Nat) [] [] ∧ j2 (upd (upd (upd (upd (upd (upd e2 9 (e2 6)) 10 v10) 11 v11) 12 v12) 13 v13) 14 v14) w) (@Eq (List Nat) [] [] ∧ j1 (upd (upd (upd (upd (upd (upd e2 9 (e2 6)) 10 v10) 11 v11) 12 v12) 13 v13) 14 v14) w)) w) w) w) w) w)

/-- bailee/baileelaw24.targets -/
def F20 (P : Program) (K : Value → World → Prop) (v0 : Value) (w : World) : Prop :=
  Do P (Instr.box 54 v0) (fun v1 w => JoinC P (fun e1 w => K (Value.tuple #[(e1 4), (e1 5)]) w) (fun j1 => Loop [9, 10, 11, 12, 13, 14, 17, 18, 19, 20, 21, 22, 23, 24, 7, 25, 26, 27, 28, 29, 30, 31, 32, 33, 8, 34, 35, 36, 37, 38, 39, 40, 41, 42, 43, 44, 45, 46, 47, 48, 49, 4, 50, 51, 52, 53, 54, 55, 56, 57, 58, 59, 5, 15, 16, 6] (upd (upd (upd (upd (upd (upd (env0 [v0]) 1 v1) 2 (Value.slice none 0 0)) 3 (Value.slice none 0 0)) 4 (Value.slice none 0 0)) 5 (Value.slice none 0 0)) 6 (Value.int .i64 0)) w (F20_p3 P j1))) w

def H20 : Hints := []

theorem F20_eq (K : Value → World → Prop) (v0 : Value) (w : World) : F20 Tryd.prog K v0 w = pt Tryd.prog H20 none Tryd.f20.ntmps (bodyOf Tryd.f20) (RetQ Tryd.prog Tryd.f20.results K) (env0 [v0]) [] w := by kernel_rfl

theorem F20_ok : codeOk cvTryd H20 (bodyOf Tryd.f20) = true := by kernel_rfl

theorem F20_has : Tryd.f20.body.isSome = true ∧ Nat.ble 1 Tryd.f20.ntmps = true := ⟨by kernel_rfl, by kernel_rfl⟩

theorem F20_calls {K : Value → World → Prop} {v0 : Value} {w : World} (h : F20 Tryd.prog K v0 w) : Calls Tryd.prog 20 #[v0] w (Returns K) :=
  calls_of_eq (cv := cvTryd) (H := H20) (fn := Tryd.f20) (args := [v0]) mixedTryd Tryd.func20 F20_has F20_ok (F20_eq K v0 w) h

def F21_p1 (P : Program) (K : Value → World → Prop) (e2 : Env) (w : World) : Prop :=
  CallN P (builtin .len #[56] 3 #[false] #[(e2 12)]) (fun v51 w => Do P (convert 3 23 v51) (fun v52 w => Do P (binOp .rem 23 (e2 2) v52) (fun v56 w => Do P (convert 23 3 v56) (fun v57 w => Do P (Instr.indexAt 56 (e2 12) v57) (fun v58 w => Do P (Instr.loadAt 69 v58) (fun v59 w => Do P (Instr.alloc 69 true (Value.tuple #[])) (fun v15 w => Do P (Instr.storeAt 69 v15 v59) (fun _ w => Drew (fun w => RdNow P (binOp .quo 23 (e2 2) v52) w (fun v62 => RdNow P (Instr.fieldAt 69 v15 2) w (fun v63 => RdNow P (Instr.loadAt 3 v63) w (fun v64 => RdNow P (convert 3 23 v64) w (fun v65 => RdNow P (binOp .rem 23 v62 v65) w (fun v66 => Do P (Instr.fieldAt 52 (e2 4) 1) (fun v68 w => Do P (Instr.loadAt 50 v68) (fun v69 w => CallN P (builtin .append #[50, 50] 50 #[false, false] #[(Value.slice none 0 0), v69]) (fun v70 w => Do P (Instr.fieldAt 52 (e2 4) 0) (fun v71 w => Do P (Instr.loadAt 23 v71) (fun v72 w => Do P (binOp .add 23 v72 (Value.int .u64 1)) (fun v73 w => Do P (Instr.fieldAt 52 (e2 4) 0) (fun v74 w => Do P (Instr.storeAt 23 v74 v73) (fun _ w => Do P (Instr.loadAt 69 v15) (fun v76 w => Do P (convert 23 3 v66) (fun v78 w => Do P (Instr.fieldAt 52 (e2 4) 0) (fun v79 w => Do P (Instr.loadAt 23 v79) (fun v80 w => Do P (Instr.build 71 #[(0, v76), (1, v78), (2, v80), (3, (e2 3))]) (fun v82 w => Do P (Instr.buildSlice 50 1 #[(0, v82)]) (fun v83 w => CallN P (builtin .append #[50, 50] 50 #[false, false] #[v70, v83]) (fun v84 w => Do P (Instr.fieldAt 52 (e2 4) 1) (fun v85 w => Do P (Instr.storeAt 50 v85 v84) (fun _ w => Drew (fun w => Draw (fun S1 w => RdNow P (Instr.loadAt 52 (e2 4)) w (fun v86 => RdS P (S1 1) (Instr.fieldAt 69 v15 0) (fun v87 => RdS P (S1 1) (Instr.loadAt 3 v87) (fun v88 => RdS P (S1 1) (Instr.fieldAt 69 v15 1) (fun v89 => RdS P (S1 1) (Instr.loadAt 28 v89) (fun v90 => RdS P (S1 1) (Instr.fieldAt 52 (e2 4) 0) (fun v92 => RdS P (S1 1) (Instr.loadAt 23 v92) (fun v93 => RdS P (S1 1) (Instr.build 60 #[(0, (Value.int .i64 6)), (1, v90), (2, v66), (3, v93)]) (fun v94 => Do P (Instr.storeAt 52 (e2 8) v86) (fun _ w => S1 1 w ∧ (Do P (Instr.storeAt 60 (e2 10) v94) (fun _ w => RdNow P (cellS 52 (e2 8)) w (fun vr0 => RdNow P (cellS 60 (e2 10)) w (fun vr2 => K (Value.tuple #[vr0, v88, vr2, (Value.bool true)]) w))) w)) w))))))))) w) w) w) w) w) w) w) w) w) w) w) w) w) w) w) w) w) w) w)))))) w) w) w) w) w) w) w) w) w

def F21_p2 (P : Program) (K : Value → World → Prop) (e1 : Env) (w : World) : Prop :=
  JoinC P (F21_p1 P K) (fun j2 => CallN P (builtin .len #[56] 3 #[false] #[(e1 12)]) (fun v46 w => Do P (eqS .eql 3 false true v46 (Value.int .i64 0)) (fun v47 w => Cond v47 (Do P (Instr.loadAt 52 (e1 4)) (fun v48 w => Do P (Instr.build 60 #[]) (fun v49 w => Do P (Instr.storeAt 52 (e1 8) v48) (fun _ w => Do P (Instr.storeAt 60 (e1 10) v49) (fun _ w => RdNow P (cellS 52 (e1 8)) w (fun vr0_1 => RdNow P (cellS 60 (e1 10)) w (fun vr2_1 => K (Value.tuple #[vr0_1, (Value.int .i64 0), vr2_1, (Value.bool false)]) w))) w) w) w) w) (@Eq (List Nat) [] [] ∧ j2 (upd (upd (upd e1 45 (e1 12)) 46 v46) 47 v47) w)) w) w)

def F21_p3 (P : Program) (j4 : Env → World → Prop) (e6 : Env) (w : World) : Prop :=
  CallN P (pickS (e6 30) (e6 36) (Value.bool false)) (fun v37 w => Cond v37 (Do P (Instr.indexAt 56 (e6 1) (e6 13)) (fun v41 w => Do P (Instr.loadAt 69 v41) (fun v42 w => Do P (Instr.buildSlice 56 1 #[(0, v42)]) (fun v43 w => CallN P (builtin .append #[56, 56] 56 #[false, false] #[(e6 12), v43]) (fun v44 w => @Eq (List Nat) [] [] ∧ j4 (upd (upd (upd (upd (upd (upd (upd (upd (upd e6 37 v37) 38 (e6 12)) 39 (e6 1)) 40 (e6 13)) 41 v41) 42 v42) 43 v43) 44 v44) 12 v44) w) w) w) w) w) (@Eq (List Nat) [] [] ∧ j4 (upd e6 37 v37) w)) w

def F21_p4 (P : Program) (next1 : Env → World → Prop) (e4 : Env) (w : World) : Prop :=
  JoinC P (fun e5 w => Do P (binOp .add 3 (e5 13) (Value.int .i64 1)) (fun v23 w => @Eq (List Nat) [] [] ∧ next1 (upd (upd (upd e5 22 (e5 13)) 23 v23) 13 v23) w) w) (fun j4 => Do P (Instr.indexAt 56 (e4 1) (e4 13)) (fun v26 w => Do P (Instr.fieldAt 69 v26 2) (fun v27 w => Do P (Instr.loadAt 3 v27) (fun v28 w => Do P (binOp .geq 3 v28 (Value.int .i64 1)) (fun v29 w => Join (F21_p3 P j4) (fun k1 => Guard v29 true (Do P (Instr.indexAt 56 (e4 1) (e4 13)) (fun v33 w => Do P (Instr.fieldAt 69 v33 2) (fun v34 w => Do P (Instr.loadAt 3 v34) (fun v35 w => Do P (binOp .leq 3 v35 (Value.int .i64 65536)) (fun v36 w => k1 (upd (upd (upd (upd (upd (upd (upd (upd (upd (upd (upd (upd (upd e4 24 (e4 1)) 25 (e4 13)) 26 v26) 27 v27) 28 v28) 29 v29) 30 v29) 31 (e4 1)) 32 (e4 13)) 33 v33) 34 v34) 35 v35) 36 v36) w) w) w) w) w) (k1 (upd (upd (upd (upd (upd (upd (upd (upd (upd (upd (upd (upd (upd e4 24 (e4 1)) 25 (e4 13)) 26 v26) 27 v27) 28 v28) 29 v29) 30 v29) 31 undef) 32 undef) 33 undef) 34 undef) 35 undef) 36 undef) w))) w) w) w) w)

/-- bailee/baileeref24.Draw -/
def F21 (P : Program) (K : Value → World → Prop) (v0 v1 v2 v3 : Value) (w : World) : Prop :=
  Do P (Instr.box 52 v0) (fun v4 w => Do P (Instr.alloc 52 true (Value.tuple #[])) (fun v8 w => Do P (Instr.alloc 60 true (Value.tuple #[])) (fun v10 w => JoinC P (F21_p2 P K) (fun j1 => Loop [18, 19, 20, 21, 24, 25, 26, 27, 28, 29, 30, 31, 32, 33, 34, 35, 36, 37, 38, 39, 40, 41, 42, 43, 44, 12, 22, 23, 13] (upd (upd (upd (upd (upd (upd (upd (env0 [v0, v1, v2, v3]) 4 v4) 8 v8) 9 (Value.int .i64 0)) 10 v10) 11 (Value.bool false)) 12 (Value.slice none 0 0)) 13 (Value.int .i64 0)) w (fun e3 next1 w => JoinC P (F21_p4 P next1) (fun j3 => CallN P (builtin .len #[56] 3 #[false] #[(e3 1)]) (fun v20 w => Do P (binOp .lss 3 (e3 13) v20) (fun v21 w => Cond v21 (@Eq (List Nat) [] [] ∧ j3 (upd (upd (upd (upd e3 18 (e3 13)) 19 (e3 1)) 20 v20) 21 v21) w) (@Eq (List Nat) [] [] ∧ j1 (upd (upd (upd (upd e3 18 (e3 13)) 19 (e3 1)) 20 v20) 21 v21) w)) w) w)))) w) w) w

def H21 : Hints := [(5, false, false, [], .ch 0 [] (.ch 1 [] (.ch 2 [] (.ch 3 [] (.ch 4 [] (.ch 5 [] (.ch 6 [] (.grp 6 true [(7, none), (8, none), (9, none), (10, none), (11, none), (12, none)] (.ch 13 [] (.done)))))))))), (11, false, false, [], .rd 0 true 0 (.rd 1 true 0 (.rd 2 true 0 (.rd 3 true 0 (.rd 4 true 0 (.rd 5 true 0 (.rd 6 true 0 (.rd 7 true 0 (.done))))))))), (16, true, false, [0, 1, 1, 1, 1, 0, 1, 1, 1, 0, 0, 0, 0], .rd 0 true 0 (.rd 1 false 1 (.rd 2 false 1 (.rd 3 false 1 (.rd 4 false 1 (.rd 5 true 0 (.rd 6 false 1 (.rd 7 false 1 (.rd 8 false 1 (.ch 9 [1] (.rd 10 true 0 (.ch 11 [] (.rd 12 true 0 (.done))))))))))))))]

theorem F21_eq (K : Value → World → Prop) (v0 v1 v2 v3 : Value) (w : World) : F21 Tryd.prog K v0 v1 v2 v3 w = pt Tryd.prog H21 none Tryd.f21.ntmps (bodyOf Tryd.f21) (RetQ Tryd.prog Tryd.f21.results K) (env0 [v0, v1, v2, v3]) [] w := by kernel_rfl

theorem F21_ok : codeOk cvTryd H21 (bodyOf Tryd.f21) = true := by kernel_rfl

theorem F21_has : Tryd.f21.body.isSome = true ∧ Nat.ble 4 Tryd.f21.ntmps = true := ⟨by kernel_rfl, by kernel_rfl⟩

theorem F21_calls {K : Value → World → Prop} {v0 v1 v2 v3 : Value} {w : World} (h : F21 Tryd.prog K v0 v1 v2 v3 w) : Calls Tryd.prog 21 #[v0, v1, v2, v3] w (Returns K) :=
  calls_of_eq (cv := cvTryd) (H := H21) (fn := Tryd.f21) (args := [v0, v1, v2, v3]) mixedTryd Tryd.func21 F21_has F21_ok (F21_eq K v0 v1 v2 v3 w) h

def F22_p1 (P : Program) (next1 : Env → World → Prop) (K : Value → World → Prop) (e4 : Env) (w : World) : Prop :=
  JoinC P (fun e5 w => Do P (binOp .add 3 (e5 5) (Value.int .i64 1)) (fun v54 w => @Eq (List Nat) [] [] ∧ next1 (upd (upd (upd e5 53 (e5 5)) 54 v54) 5 v54) w) w) (fun j4 => Drew (fun w => RdNow P (Instr.fieldAt 60 (e4 2) 5) w (fun v55 => RdNow P (Instr.loadAt 31 v55) w (fun v56 => RdNow P (Instr.indexAt 31 v56 (e4 5)) w (fun v58 => RdNow P (Instr.loadAt 28 v58) w (fun v59 => RdNow P (Instr.fieldAt 60 (e4 3) 5) w (fun v60 => RdNow P (Instr.loadAt 31 v60) w (fun v61 => RdNow P (Instr.indexAt 31 v61 (e4 5)) w (fun v63 => RdNow P (Instr.loadAt 28 v63) w (fun v64 => RdNow P (eqS .neq 28 false false v59 v64) w (fun v65 => Cond v65 (K (Value.bool false) w) (@Eq (List Nat) [] [] ∧ j4 (upd (upd (upd (upd (upd (upd (upd (upd (upd (upd (upd e4 55 v55) 56 v56) 57 (e4 5)) 58 v58) 59 v59) 60 v60) 61 v61) 62 (e4 5)) 63 v63) 64 v64) 65 v65) w))))))))))) w)

def F22_p2 (P : Program) (K : Value → World → Prop) (e1 : Env) (w : World) : Prop :=
  JoinC P (fun e2 w => K (Value.bool true) w) (fun j2 => Loop [48, 49, 50, 51, 52, 55, 56, 57, 58, 59, 60, 61, 62, 63, 64, 65, 4, 53, 54, 5] (upd e1 5 (Value.int .i64 0)) w (fun e3 next1 w => JoinC P (F22_p1 P next1 K) (fun j3 => Do P (Instr.fieldAt 60 (e3 2) 5) (fun v49 w => Do P (Instr.loadAt 31 v49) (fun v50 w => CallN P (builtin .len #[31] 3 #[false] #[v50]) (fun v51 w => Do P (binOp .lss 3 (e3 5) v51) (fun v52 w => Cond v52 (@Eq (List Nat) [] [] ∧ j3 (upd (upd (upd (upd (upd e3 48 (e3 5)) 49 v49) 50 v50) 51 v51) 52 v52) w) (@Eq (List Nat) [] [] ∧ j2 (upd (upd (upd (upd (upd e3 48 (e3 5)) 49 v49) 50 v50) 51 v51) 52 v52) w)) w) w) w) w)))

def F22_p3 (P : Program) (K : Value → World → Prop) (j1 : Env → World → Prop) (e9 : Env) (w : World) : Prop :=
  CallN P (pickS (e9 32) (Value.bool true) (e9 37)) (fun v38 w => Join (fun e10 w => CallN P (pickS (e10 39) (Value.bool true) (e10 46)) (fun v47 w => Cond v47 (K (Value.bool false) w) (@Eq (List Nat) [] [] ∧ j1 (upd e10 47 v47) w)) w) (fun k5 => Guard v38 false (Do P (Instr.fieldAt 60 (e9 2) 5) (fun v40 w => Do P (Instr.loadAt 31 v40) (fun v41 w => CallN P (builtin .len #[31] 3 #[false] #[v41]) (fun v42 w => Do P (Instr.fieldAt 60 (e9 3) 5) (fun v43 w => Do P (Instr.loadAt 31 v43) (fun v44 w => CallN P (builtin .len #[31] 3 #[false] #[v44]) (fun v45 w => Do P (eqS .neq 3 false false v42 v45) (fun v46 w => k5 (upd (upd (upd (upd (upd (upd (upd (upd (upd e9 38 v38) 39 v38) 40 v40) 41 v41) 42 v42) 43 v43) 44 v44) 45 v45) 46 v46) w) w) w) w) w) w) w) w) (k5 (upd (upd (upd (upd (upd (upd (upd (upd (upd e9 38 v38) 39 v38) 40 undef) 41 undef) 42 undef) 43 undef) 44 undef) 45 undef) 46 undef) w))) w

def F22_p4 (P : Program) (K : Value → World → Prop) (j1 : Env → World → Prop) (e8 : Env) (w : World) : Prop :=
  CallN P (pickS (e8 25) (Value.bool true) (e8 30)) (fun v31 w => Join (F22_p3 P K j1) (fun k4 => Guard v31 false (Do P (Instr.fieldAt 60 (e8 2) 4) (fun v33 w => Do P (Instr.loadAt 9 v33) (fun v34 w => Do P (Instr.fieldAt 60 (e8 3) 4) (fun v35 w => Do P (Instr.loadAt 9 v35) (fun v36 w => Do P (eqS .neq 9 false false v34 v36) (fun v37 w => k4 (upd (upd (upd (upd (upd (upd (upd e8 31 v31) 32 v31) 33 v33) 34 v34) 35 v35) 36 v36) 37 v37) w) w) w) w) w) w) (k4 (upd (upd (upd (upd (upd (upd (upd e8 31 v31) 32 v31) 33 undef) 34 undef) 35 undef) 36 undef) 37 undef) w))) w

def F22_p5 (P : Program) (K : Value → World → Prop) (j1 : Env → World → Prop) (e7 : Env) (w : World) : Prop :=
  CallN P (pickS (e7 18) (Value.bool true) (e7 23)) (fun v24 w => Join (F22_p4 P K j1) (fun k3 => Guard v24 false (Do P (Instr.fieldAt 60 (e7 2) 3) (fun v26 w => Do P (Instr.loadAt 23 v26) (fun v27 w => Do P (Instr.fieldAt 60 (e7 3) 3) (fun v28 w => Do P (Instr.loadAt 23 v28) (fun v29 w => Do P (eqS .neq 23 false false v27 v29) (fun v30 w => k3 (upd (upd (upd (upd (upd (upd (upd e7 24 v24) 25 v24) 26 v26) 27 v27) 28 v28) 29 v29) 30 v30) w) w) w) w) w) w) (k3 (upd (upd (upd (upd (upd (upd (upd e7 24 v24) 25 v24) 26 undef) 27 undef) 28 undef) 29 undef) 30 undef) w))) w

def F22_p6 (P : Program) (K : Value → World → Prop) (j1 : Env → World → Prop) (e6 : Env) (w : World) : Prop :=
  CallN P (pickS (e6 11) (Value.bool true) (e6 16)) (fun v17 w => Join (F22_p5 P K j1) (fun k2 => Guard v17 false (Do P (Instr.fieldAt 60 (e6 2) 2) (fun v19 w => Do P (Instr.loadAt 23 v19) (fun v20 w => Do P (Instr.fieldAt 60 (e6 3) 2) (fun v21 w => Do P (Instr.loadAt 23 v21) (fun v22 w => Do P (eqS .neq 23 false false v20 v22) (fun v23 w => k2 (upd (upd (upd (upd (upd (upd (upd e6 17 v17) 18 v17) 19 v19) 20 v20) 21 v21) 22 v22) 23 v23) w) w) w) w) w) w) (k2 (upd (upd (upd (upd (upd (upd (upd e6 17 v17) 18 v17) 19 undef) 20 undef) 21 undef) 22 undef) 23 undef) w))) w

/-- bailee/baileeref20.Same -/
def F22 (P : Program) (K : Value → World → Prop) (v0 v1 : Value) (w : World) : Prop :=
  Do P (Instr.box 60 v0) (fun v2 w => Do P (Instr.box 60 v1) (fun v3 w => JoinC P (F22_p2 P K) (fun j1 => Do P (Instr.fieldAt 60 v2 0) (fun v6 w => Do P (Instr.loadAt 3 v6) (fun v7 w => Do P (Instr.fieldAt 60 v3 0) (fun v8 w => Do P (Instr.loadAt 3 v8) (fun v9 w => Do P (eqS .neq 3 false false v7 v9) (fun v10 w => Join (F22_p6 P K j1) (fun k1 => Guard v10 false (Do P (Instr.fieldAt 60 v2 1) (fun v12 w => Do P (Instr.loadAt 28 v12) (fun v13 w => Do P (Instr.fieldAt 60 v3 1) (fun v14 w => Do P (Instr.loadAt 28 v14) (fun v15 w => Do P (eqS .neq 28 false false v13 v15) (fun v16 w => k1 (upd (upd (upd (upd (upd (upd (upd (upd (upd (upd (upd (upd (upd (upd (env0 [v0, v1]) 2 v2) 3 v3) 4 (Value.bool false)) 6 v6) 7 v7) 8 v8) 9 v9) 10 v10) 11 v10) 12 v12) 13 v13) 14 v14) 15 v15) 16 v16) w) w) w) w) w) w) (k1 (upd (upd (upd (upd (upd (upd (upd (upd (upd (upd (upd (upd (upd (upd (env0 [v0, v1]) 2 v2) 3 v3) 4 (Value.bool false)) 6 v6) 7 v7) 8 v8) 9 v9) 10 v10) 11 v10) 12 undef) 13 undef) 14 undef) 15 undef) 16 undef) w))) w) w) w) w) w)) w) w

def H22 : Hints := [(1, false, false, [], .ch 0 [] (.ch 1 [] (.ch 2 [] (.ch 3 [] (.ch 4 [] (.ch 5 [] (.grp 5 false [(6, none), (7, none), (8, none), (9, none), (10, none)] (.ch 11 [] (.ch 12 [] (.grp 12 false [(13, none), (14, none), (15, none), (16, none), (17, none)] (.ch 18 [] (.ch 19 [] (.grp 19 false [(20, none), (21, none), (22, none), (23, none), (24, none)] (.ch 25 [] (.ch 26 [] (.grp 26 false [(27, none), (28, none), (29, none), (30, none), (31, none)] (.ch 32 [] (.ch 33 [] (.grp 33 false [(34, none), (35, none), (36, none), (37, none), (38, none), (39, none), (40, none)] (.ch 41 [] (.done))))))))))))))))))))), (6, false, false, [], .rd 0 true 0 (.rd 1 true 0 (.rd 2 true 0 (.rd 3 true 0 (.rd 4 true 0 (.rd 5 true 0 (.rd 6 true 0 (.rd 7 true 0 (.rd 8 true 0 (.rd 9 true 0 (.rd 10 true 0 (.done))))))))))))]

theorem F22_eq (K : Value → World → Prop) (v0 v1 : Value) (w : World) : F22 Tryd.prog K v0 v1 w = pt Tryd.prog H22 none Tryd.f22.ntmps (bodyOf Tryd.f22) (RetQ Tryd.prog Tryd.f22.results K) (env0 [v0, v1]) [] w := by kernel_rfl

theorem F22_ok : codeOk cvTryd H22 (bodyOf Tryd.f22) = true := by kernel_rfl

theorem F22_has : Tryd.f22.body.isSome = true ∧ Nat.ble 2 Tryd.f22.ntmps = true := ⟨by kernel_rfl, by kernel_rfl⟩

theorem F22_calls {K : Value → World → Prop} {v0 v1 : Value} {w : World} (h : F22 Tryd.prog K v0 v1 w) : Calls Tryd.prog 22 #[v0, v1] w (Returns K) :=
  calls_of_eq (cv := cvTryd) (H := H22) (fn := Tryd.f22) (args := [v0, v1]) mixedTryd Tryd.func22 F22_has F22_ok (F22_eq K v0 v1 w) h

/-- bailee/baileelaw24.noteOf -/
def F23 (P : Program) (K : Value → World → Prop) (v0 : Value) (w : World) : Prop :=
  Do P (Instr.box 33 v0) (fun v1 w => Do P (Instr.alloc 60 true (Value.tuple #[])) (fun v2 w => Do P (Instr.fieldAt 33 v1 0) (fun v3 w => Do P (Instr.loadAt 3 v3) (fun v4 w => Do P (Instr.fieldAt 33 v1 1) (fun v5 w => Do P (Instr.loadAt 28 v5) (fun v6 w => Do P (Instr.fieldAt 33 v1 2) (fun v7 w => Do P (Instr.loadAt 23 v7) (fun v8 w => Do P (Instr.fieldAt 33 v1 3) (fun v9 w => Do P (Instr.loadAt 23 v9) (fun v10 w => Do P (Instr.fieldAt 33 v1 4) (fun v11 w => Do P (Instr.loadAt 22 v11) (fun v12 w => Do P (convert 22 9 v12) (fun v13 w => Do P (Instr.fieldAt 33 v1 5) (fun v14 w => Do P (Instr.loadAt 31 v14) (fun v15 w => Do P (Instr.build 60 #[(0, v4), (1, v6), (2, v8), (3, v10), (4, v13), (5, v15)]) (fun v16 w => Do P (Instr.storeAt 60 v2 v16) (fun _ w => RdNow P (cellS 60 v2) w (fun vr0 => K vr0 w)) w) w) w) w) w) w) w) w) w) w) w) w) w) w) w) w) w

def H23 : Hints := []

theorem F23_eq (K : Value → World → Prop) (v0 : Value) (w : World) : F23 Tryd.prog K v0 w = pt Tryd.prog H23 none Tryd.f23.ntmps (bodyOf Tryd.f23) (RetQ Tryd.prog Tryd.f23.results K) (env0 [v0]) [] w := by kernel_rfl

theorem F23_ok : codeOk cvTryd H23 (bodyOf Tryd.f23) = true := by kernel_rfl

theorem F23_has : Tryd.f23.body.isSome = true ∧ Nat.ble 1 Tryd.f23.ntmps = true := ⟨by kernel_rfl, by kernel_rfl⟩

theorem F23_calls {K : Value → World → Prop} {v0 : Value} {w : World} (h : F23 Tryd.prog K v0 w) : Calls Tryd.prog 23 #[v0] w (Returns K) :=
  calls_of_eq (cv := cvTryd) (H := H23) (fn := Tryd.f23) (args := [v0]) mixedTryd Tryd.func23 F23_has F23_ok (F23_eq K v0 w) h

def F24_p1 (P : Program) (j1 : Env → World → Prop) (e2 : Env) (next1 : Env → World → Prop) (w : World) : Prop :=
  Do P (Instr.makeFunc (Fn.func 52) #[] #[(e2 4), (e2 5)]) (fun v12 w => CallN P (callS (fnv 39) #[(e2 0), v12]) (fun v13 w => Do P (Instr.extract v13 0) (fun v14 w => Do P (Instr.extract v13 1) (fun v15 w => Do P (Instr.alloc 96 true (Value.tuple #[])) (fun v8 w => Do P (Instr.storeAt 96 v8 v14) (fun _ w => JoinC P (fun e3 w => Do P (Instr.fieldAt 96 (e3 8) 0) (fun v19 w => Do P (Instr.fieldAt 94 v19 0) (fun v20 w => Do P (Instr.loadAt 3 v20) (fun v21 w => Do P (Instr.buildSlice 65 1 #[(0, v21)]) (fun v22 w => CallN P (builtin .append #[65, 65] 65 #[false, false] #[(e3 7), v22]) (fun v23 w => @Eq (List Nat) [] [] ∧ next1 (upd (upd (upd (upd (upd (upd (upd e3 18 (e3 7)) 19 v19) 20 v20) 21 v21) 22 v22) 23 v23) 7 v23) w) w) w) w) w) w) (fun j2 => Do P (Op.unary .not v15) (fun v17 w => Cond v17 (@Eq (List Nat) [] [] ∧ j1 (upd (upd (upd (upd (upd (upd (upd (upd (upd (upd e2 11 (e2 0)) 12 v12) 13 v13) 10 v13) 14 v14) 15 v15) 8 v8) 9 v15) 16 v15) 17 v17) w) (@Eq (List Nat) [] [] ∧ j2 (upd (upd (upd (upd (upd (upd (upd (upd (upd (upd e2 11 (e2 0)) 12 v12) 13 v13) 10 v13) 14 v14) 15 v15) 8 v8) 9 v15) 16 v15) 17 v17) w)) w)) w) w) w) w) w) w

/-- (*bailee/audit.Auditor).Late -/
def F24 (P : Program) (K : Value → World → Prop) (v0 v1 v2 : Value) (w : World) : Prop :=
  Do P (Instr.box 23 v1) (fun v4 w => Do P (Instr.box 23 v2) (fun v5 w => JoinC P (fun e1 w => CallN P (callS (fnv 53) #[(e1 7)]) (fun _ w => K (e1 7) w) w) (fun j1 => Loop [11, 12, 13, 10, 14, 15, 8, 9, 16, 17, 18, 19, 20, 21, 22, 23, 7] (upd (upd (upd (upd (env0 [v0, v1, v2]) 4 v4) 5 v5) 6 (Value.slice none 0 0)) 7 (Value.slice none 0 0)) w (F24_p1 P j1))) w) w

def H24 : Hints := []

theorem F24_eq (K : Value → World → Prop) (v0 v1 v2 : Value) (w : World) : F24 Tryd.prog K v0 v1 v2 w = pt Tryd.prog H24 none Tryd.f24.ntmps (bodyOf Tryd.f24) (RetQ Tryd.prog Tryd.f24.results K) (env0 [v0, v1, v2]) [] w := by kernel_rfl

theorem F24_ok : codeOk cvTryd H24 (bodyOf Tryd.f24) = true := by kernel_rfl

theorem F24_has : Tryd.f24.body.isSome = true ∧ Nat.ble 3 Tryd.f24.ntmps = true := ⟨by kernel_rfl, by kernel_rfl⟩

theorem F24_calls {K : Value → World → Prop} {v0 v1 v2 : Value} {w : World} (h : F24 Tryd.prog K v0 v1 v2 w) : Calls Tryd.prog 24 #[v0, v1, v2] w (Returns K) :=
  calls_of_eq (cv := cvTryd) (H := H24) (fn := Tryd.f24) (args := [v0, v1, v2]) mixedTryd Tryd.func24 F24_has F24_ok (F24_eq K v0 v1 v2 w) h

def F25_p1 (P : Program) (j3 : Env → World → Prop) (e6 : Env) (w : World) : Prop :=
  Do P (Instr.sliceAt 65 (e6 8) none (some (e6 12)) none) (fun v61 w => CallN P (builtin .append #[65, 65] 65 #[false, false] #[(Value.slice none 0 0), v61]) (fun v62 w => Do P (Instr.fieldAt 71 (e6 11) 0) (fun v64 w => Do P (Instr.fieldAt 69 v64 0) (fun v65 w => Do P (Instr.loadAt 3 v65) (fun v66 w => Do P (Instr.buildSlice 65 1 #[(0, v66)]) (fun v67 w => CallN P (builtin .append #[65, 65] 65 #[false, false] #[v62, v67]) (fun v68 w => Do P (Instr.sliceAt 65 (e6 8) (some (e6 12)) none none) (fun v72 w => CallN P (builtin .append #[65, 65] 65 #[false, false] #[v68, v72]) (fun v73 w => @Eq (List Nat) [] [] ∧ j3 (upd (upd (upd (upd (upd (upd (upd (upd (upd (upd (upd (upd (upd (upd (upd (upd (upd (upd (upd (upd e6 13 (Value.slice none 0 0)) 58 (Value.slice none 0 0)) 59 (e6 8)) 60 (e6 12)) 61 v61) 62 v62) 13 v62) 63 v62) 64 v64) 65 v65) 66 v66) 67 v67) 68 v68) 13 v68) 69 v68) 70 (e6 8)) 71 (e6 12)) 72 v72) 73 v73) 8 v73) w) w) w) w) w) w) w) w) w) w

def F25_p2 (P : Program) (j5 : Env → World → Prop) (e7 : Env) (next2 : Env → World → Prop) (w : World) : Prop :=
  JoinC P (fun e8 w => Do P (binOp .add 3 (e8 12) (Value.int .i64 1)) (fun v57 w => @Eq (List Nat) [] [] ∧ next2 (upd (upd (upd e8 56 (e8 12)) 57 v57) 12 v57) w) w) (fun j6 => Drew (fun w => RdNowN P (builtin .len #[65] 3 #[false] #[(e7 8)]) w (fun v44 => RdNow P (binOp .lss 3 (e7 12) v44) w (fun v45 => Join (fun e9 w => RdNowN P (pickS (e9 46) (e9 54) (Value.bool false)) w (fun v55 => Cond v55 (@Eq (List Nat) [] [] ∧ j6 (upd e9 55 v55) w) (@Eq (List Nat) [] [] ∧ j5 (upd e9 55 v55) w))) (fun k1 => Guard v45 true (RdNow P (Instr.indexAt 65 (e7 8) (e7 12)) w (fun v49 => RdNow P (Instr.loadAt 3 v49) w (fun v50 => RdNow P (Instr.fieldAt 71 (e7 11) 0) w (fun v51 => RdNow P (Instr.fieldAt 69 v51 0) w (fun v52 => RdNow P (Instr.loadAt 3 v52) w (fun v53 => RdNow P (binOp .leq 3 v50 v53) w (fun v54 => k1 (upd (upd (upd (upd (upd (upd (upd (upd (upd (upd (upd (upd (upd e7 42 (e7 12)) 43 (e7 8)) 44 v44) 45 v45) 46 v45) 47 (e7 8)) 48 (e7 12)) 49 v49) 50 v50) 51 v51) 52 v52) 53 v53) 54 v54) w))))))) (k1 (upd (upd (upd (upd (upd (upd (upd (upd (upd (upd (upd (upd (upd e7 42 (e7 12)) 43 (e7 8)) 44 v44) 45 v45) 46 v45) 47 undef) 48 undef) 49 undef) 50 undef) 51 undef) 52 undef) 53 undef) 54 undef) w))))) w)

def F25_p3 (P : Program) (next1 : Env → World → Prop) (e3 : Env) (w : World) : Prop :=
  JoinC P (fun e4 w => Do P (binOp .add 3 (e4 10) (Value.int .i64 1)) (fun v20 w => @Eq (List Nat) [] [] ∧ next1 (upd (upd (upd e4 19 (e4 10)) 20 v20) 10 v20) w) w) (fun j3 => Do P (Instr.fieldAt 52 (e3 3) 1) (fun v21 w => Do P (Instr.loadAt 50 v21) (fun v22 w => Do P (Instr.indexAt 50 v22 (e3 10)) (fun v24 w => Do P (Instr.loadAt 71 v24) (fun v25 w => Do P (Instr.alloc 71 true (Value.tuple #[])) (fun v11 w => Do P (Instr.storeAt 71 v11 v25) (fun _ w => JoinC P (fun e5 w => JoinC P (F25_p1 P j3) (fun j5 => Loop [42, 43, 44, 45, 46, 47, 48, 49, 50, 51, 52, 53, 54, 55, 56, 57, 12] (upd e5 12 (Value.int .i64 0)) w (F25_p2 P j5))) (fun j4 => Do P (Instr.fieldAt 71 v11 3) (fun v26 w => Do P (Instr.loadAt 23 v26) (fun v27 w => Do P (binOp .gtr 23 v27 (e3 1)) (fun v29 w => Join (fun e10 w => CallN P (pickS (e10 30) (Value.bool true) (e10 36)) (fun v37 w => Cond v37 (Do P (Instr.loadAt 71 (e10 11)) (fun v39 w => Do P (Instr.buildSlice 50 1 #[(0, v39)]) (fun v40 w => CallN P (builtin .append #[50, 50] 50 #[false, false] #[(e10 9), v40]) (fun v41 w => @Eq (List Nat) [] [] ∧ j3 (upd (upd (upd (upd (upd (upd e10 37 v37) 38 (e10 9)) 39 v39) 40 v40) 41 v41) 9 v41) w) w) w) w) (@Eq (List Nat) [] [] ∧ j4 (upd e10 37 v37) w)) w) (fun k2 => Guard v29 false (Do P (Instr.fieldAt 71 v11 3) (fun v32 w => Do P (Instr.loadAt 23 v32) (fun v33 w => Do P (binOp .sub 23 (e3 1) v33) (fun v34 w => Do P (binOp .lss 23 v34 (e3 2)) (fun v36 w => k2 (upd (upd (upd (upd (upd (upd (upd (upd (upd (upd (upd (upd (upd (upd (upd (upd (upd e3 21 v21) 22 v22) 23 (e3 10)) 24 v24) 25 v25) 11 v11) 26 v26) 27 v27) 28 (e3 1)) 29 v29) 30 v29) 31 (e3 1)) 32 v32) 33 v33) 34 v34) 35 (e3 2)) 36 v36) w) w) w) w) w) (k2 (upd (upd (upd (upd (upd (upd (upd (upd (upd (upd (upd (upd (upd (upd (upd (upd (upd e3 21 v21) 22 v22) 23 (e3 10)) 24 v24) 25 v25) 11 v11) 26 v26) 27 v27) 28 (e3 1)) 29 v29) 30 v29) 31 undef) 32 undef) 33 undef) 34 undef) 35 undef) 36 undef) w))) w) w) w)) w) w) w) w) w) w)

/-- bailee/baileeref24.Late -/
def F25 (P : Program) (K : Value → World → Prop) (v0 v1 v2 : Value) (w : World) : Prop :=
  Do P (Instr.box 52 v0) (fun v3 w => Do P (Instr.alloc 52 true (Value.tuple #[])) (fun v6 w => JoinC P (fun e1 w => Do P (Instr.fieldAt 52 (e1 3) 1) (fun v75 w => Do P (Instr.storeAt 50 v75 (e1 9)) (fun _ w => Do P (Instr.loadAt 52 (e1 3)) (fun v76 w => Do P (Instr.storeAt 52 (e1 6) v76) (fun _ w => RdNow P (cellS 52 (e1 6)) w (fun vr0 => K (Value.tuple #[vr0, (e1 8)]) w)) w) w) w) w) (fun j1 => Loop [14, 15, 16, 17, 18, 21, 22, 23, 24, 25, 11, 26, 27, 28, 29, 30, 31, 32, 33, 34, 35, 36, 37, 38, 39, 40, 41, 9, 12, 42, 43, 44, 45, 46, 47, 48, 49, 50, 51, 52, 53, 54, 55, 56, 57, 13, 58, 59, 60, 61, 62, 63, 64, 65, 66, 67, 68, 69, 70, 71, 72, 73, 8, 19, 20, 10] (upd (upd (upd (upd (upd (upd (env0 [v0, v1, v2]) 3 v3) 6 v6) 7 (Value.slice none 0 0)) 8 (Value.slice none 0 0)) 9 (Value.slice none 0 0)) 10 (Value.int .i64 0)) w (fun e2 next1 w => JoinC P (F25_p3 P next1) (fun j2 => Do P (Instr.fieldAt 52 (e2 3) 1) (fun v15 w => Do P (Instr.loadAt 50 v15) (fun v16 w => CallN P (builtin .len #[50] 3 #[false] #[v16]) (fun v17 w => Do P (binOp .lss 3 (e2 10) v17) (fun v18 w => Cond v18 (@Eq (List Nat) [] [] ∧ j2 (upd (upd (upd (upd (upd e2 14 (e2 10)) 15 v15) 16 v16) 17 v17) 18 v18) w) (@Eq (List Nat) [] [] ∧ j1 (upd (upd (upd (upd (upd e2 14 (e2 10)) 15 v15) 16 v16) 17 v17) 18 v18) w)) w) w) w) w)))) w) w

def H25 : Hints := [(7, false, false, [], .ch 0 [] (.ch 1 [] (.ch 2 [] (.ch 3 [] (.ch 4 [] (.grp 4 false [(5, none), (6, none), (7, none), (8, none), (9, none), (10, none)] (.ch 11 [] (.done)))))))), (10, false, false, [], .rd 0 true 0 (.rd 1 true 0 (.rd 2 true 0 (.rd 3 true 0 (.rd 4 true 0 (.grp 4 true [(5, some true), (6, some true), (7, some true), (8, some true), (9, some true), (10, some true), (11, some true), (12, some true)] (.rd 13 true 0 (.done))))))))]

theorem F25_eq (K : Value → World → Prop) (v0 v1 v2 : Value) (w : World) : F25 Tryd.prog K v0 v1 v2 w = pt Tryd.prog H25 none Tryd.f25.ntmps (bodyOf Tryd.f25) (RetQ Tryd.prog Tryd.f25.results K) (env0 [v0, v1, v2]) [] w := by kernel_rfl

theorem F25_ok : codeOk cvTryd H25 (bodyOf Tryd.f25) = true := by kernel_rfl

theorem F25_has : Tryd.f25.body.isSome = true ∧ Nat.ble 3 Tryd.f25.ntmps = true := ⟨by kernel_rfl, by kernel_rfl⟩

theorem F25_calls {K : Value → World → Prop} {v0 v1 v2 : Value} {w : World} (h : F25 Tryd.prog K v0 v1 v2 w) : Calls Tryd.prog 25 #[v0, v1, v2] w (Returns K) :=
  calls_of_eq (cv := cvTryd) (H := H25) (fn := Tryd.f25) (args := [v0, v1, v2]) mixedTryd Tryd.func25 F25_has F25_ok (F25_eq K v0 v1 v2 w) h

def F26_p1 (P : Program) (next1 : Env → World → Prop) (e4 : Env) (w : World) : Prop :=
  JoinC P (fun e5 w => CallN P (callS (fnv 49) #[(e5 7)]) (fun v53 w => Do P (binOp .quo 3 (e5 1) (Value.int .i64 2)) (fun v55 w => @Eq (List Nat) [] [] ∧ next1 (upd (upd (upd (upd (upd (upd e5 52 (e5 7)) 53 v53) 7 v53) 54 (e5 1)) 55 v55) 1 v55) w) w) w) (fun j4 => Do P (binOp .rem 3 (e4 1) (Value.int .i64 2)) (fun v29 w => Do P (eqS .eql 3 false true v29 (Value.int .i64 1)) (fun v30 w => Cond v30 (Do P (binOp .sub 3 (e4 1) (Value.int .i64 1)) (fun v34 w => Do P (Instr.indexAt 31 (e4 7) v34) (fun v35 w => Do P (Instr.loadAt 28 v35) (fun v36 w => Do P (Instr.buildSlice 31 1 #[(0, v36)]) (fun v37 w => CallN P (builtin .append #[31, 31] 31 #[false, false] #[(e4 9), v37]) (fun v38 w => @Eq (List Nat) [] [] ∧ j4 (upd (upd (upd (upd (upd (upd (upd (upd (upd (upd (upd (upd e4 28 (e4 1)) 29 v29) 30 v30) 31 (e4 9)) 32 (e4 7)) 33 (e4 1)) 34 v34) 35 v35) 36 v36) 37 v37) 38 v38) 9 v38) w) w) w) w) w) w) (Do P (binOp .add 3 (e4 1) (Value.int .i64 1)) (fun v40 w => CallN P (builtin .len #[31] 3 #[false] #[(e4 7)]) (fun v42 w => Do P (binOp .lss 3 v40 v42) (fun v43 w => Cond v43 (Do P (binOp .add 3 (e4 1) (Value.int .i64 1)) (fun v47 w => Do P (Instr.indexAt 31 (e4 7) v47) (fun v48 w => Do P (Instr.loadAt 28 v48) (fun v49 w => Do P (Instr.buildSlice 31 1 #[(0, v49)]) (fun v50 w => CallN P (builtin .append #[31, 31] 31 #[false, false] #[(e4 9), v50]) (fun v51 w => @Eq (List Nat) [] [] ∧ j4 (upd (upd (upd (upd (upd (upd (upd (upd (upd (upd (upd (upd (upd (upd (upd (upd (upd e4 28 (e4 1)) 29 v29) 30 v30) 39 (e4 1)) 40 v40) 41 (e4 7)) 42 v42) 43 v43) 44 (e4 9)) 45 (e4 7)) 46 (e4 1)) 47 v47) 48 v48) 49 v49) 50 v50) 51 v51) 9 v51) w) w) w) w) w) w) (@Eq (List Nat) [] [] ∧ j4 (upd (upd (upd (upd (upd (upd (upd (upd e4 28 (e4 1)) 29 v29) 30 v30) 39 (e4 1)) 40 v40) 41 (e4 7)) 42 v42) 43 v43) w)) w) w) w)) w) w)

def F26_p2 (P : Program) (K : Value → World → Prop) (e1 : Env) (w : World) : Prop :=
  CallN P (callS (fnv 51) #[(e1 0)]) (fun v21 w => Do P (Instr.indexAt 118 v21 (e1 1)) (fun v23 w => Do P (Instr.loadAt 9 v23) (fun v24 w => JoinC P (fun e2 w => K (Value.tuple #[(e2 8), (e2 9), (Value.int .i64 0)]) w) (fun j2 => Loop [25, 26, 27, 28, 29, 30, 31, 32, 33, 34, 35, 36, 37, 38, 9, 39, 40, 41, 42, 43, 44, 45, 46, 47, 48, 49, 50, 51, 52, 53, 7, 54, 55, 1] (upd (upd (upd (upd (upd (upd (upd e1 20 (e1 0)) 21 v21) 22 (e1 1)) 23 v23) 24 v24) 8 v24) 9 (Value.slice none 0 0)) w (fun e3 next1 w => JoinC P (F26_p1 P next1) (fun j3 => CallN P (builtin .len #[31] 3 #[false] #[(e3 7)]) (fun v26 w => Do P (binOp .gtr 3 v26 (Value.int .i64 1)) (fun v27 w => Cond v27 (@Eq (List Nat) [] [] ∧ j3 (upd (upd (upd e3 25 (e3 7)) 26 v26) 27 v27) w) (@Eq (List Nat) [] [] ∧ j2 (upd (upd (upd e3 25 (e3 7)) 26 v26) 27 v27) w)) w) w)))) w) w) w

/-- bailee/baileeref06.Prove -/
def F26 (P : Program) (K : Value → World → Prop) (v0 v1 : Value) (w : World) : Prop :=
  CallN P (callS (fnv 48) #[v0]) (fun v11 w => JoinC P (F26_p2 P K) (fun j1 => Do P (binOp .lss 3 v1 (Value.int .i64 0)) (fun v13 w => Join (fun e6 w => CallN P (pickS (e6 14) (Value.bool true) (e6 18)) (fun v19 w => Cond v19 (K (Value.tuple #[(Value.string ⟨#[]⟩), (Value.slice none 0 0), (Value.int .i64 14)]) w) (@Eq (List Nat) [] [] ∧ j1 (upd e6 19 v19) w)) w) (fun k1 => Guard v13 false (CallN P (builtin .len #[31] 3 #[false] #[v11]) (fun v17 w => Do P (binOp .geq 3 v1 v17) (fun v18 w => k1 (upd (upd (upd (upd (upd (upd (upd (upd (upd (upd (upd (upd (upd (env0 [v0, v1]) 4 (Value.string ⟨#[]⟩)) 5 (Value.slice none 0 0)) 6 (Value.int .i64 0)) 10 v0) 11 v11) 7 v11) 12 v1) 13 v13) 14 v13) 15 v1) 16 v11) 17 v17) 18 v18) w) w) w) (k1 (upd (upd (upd (upd (upd (upd (upd (upd (upd (upd (upd (upd (upd (env0 [v0, v1]) 4 (Value.string ⟨#[]⟩)) 5 (Value.slice none 0 0)) 6 (Value.int .i64 0)) 10 v0) 11 v11) 7 v11) 12 v1) 13 v13) 14 v13) 15 undef) 16 undef) 17 undef) 18 undef) w))) w)) w

def H26 : Hints := [(2, false, false, [], .ch 0 [] (.ch 1 [] (.ch 2 [] (.grp 2 false [(3, none), (4, none), (5, none), (6, none)] (.ch 7 [] (.done))))))]

theorem F26_eq (K : Value → World → Prop) (v0 v1 : Value) (w : World) : F26 Tryd.prog K v0 v1 w = pt Tryd.prog H26 none Tryd.f26.ntmps (bodyOf Tryd.f26) (RetQ Tryd.prog Tryd.f26.results K) (env0 [v0, v1]) [] w := by kernel_rfl

theorem F26_ok : codeOk cvTryd H26 (bodyOf Tryd.f26) = true := by kernel_rfl

theorem F26_has : Tryd.f26.body.isSome = true ∧ Nat.ble 2 Tryd.f26.ntmps = true := ⟨by kernel_rfl, by kernel_rfl⟩

theorem F26_calls {K : Value → World → Prop} {v0 v1 : Value} {w : World} (h : F26 Tryd.prog K v0 v1 w) : Calls Tryd.prog 26 #[v0, v1] w (Returns K) :=
  calls_of_eq (cv := cvTryd) (H := H26) (fn := Tryd.f26) (args := [v0, v1]) mixedTryd Tryd.func26 F26_has F26_ok (F26_eq K v0 v1 w) h

end Go.Px
end
section
set_option linter.unusedVariables false
set_option linter.unusedSimpArgs false
set_option linter.unusedVariables false
set_option maxRecDepth 20000
namespace Go.Px
open Go Go.Proofs
def F27_p1 (P : Program) (K : Value → World → Prop) (j3 : Env → World → Prop) (e7 : Env) (w : World) : Prop :=
  CallN P (pickS (e7 44) (e7 49) (Value.bool false)) (fun v50 w => Cond v50 (JoinC P (fun e8 w => Do P (Instr.loadAt 52 (e8 3)) (fun v75 w => CallN P (callS (fnv 54) #[v75, (e8 8)]) (fun v77 w => Do P (Instr.storeAt 52 (e8 6) v77) (fun _ w => RdNow P (cellS 52 (e8 6)) w (fun vr0_1 => K (Value.tuple #[vr0_1, (Value.int .i64 2)]) w)) w) w) w) (fun j6 => Do P (Instr.fieldAt 60 (e7 5) 2) (fun v51 w => Do P (Instr.loadAt 23 v51) (fun v52 w => Do P (Instr.fieldAt 71 (e7 9) 1) (fun v53 w => Do P (Instr.loadAt 3 v53) (fun v54 w => Do P (convert 3 23 v54) (fun v55 w => Do P (eqS .eql 23 false false v52 v55) (fun v56 w => Join (fun e9 w => CallN P (pickS (e9 57) (e9 70) (Value.bool false)) (fun v71 w => Cond v71 (Do P (Instr.loadAt 52 (e9 3)) (fun v72 w => CallN P (callS (fnv 54) #[v72, (e9 8)]) (fun v74 w => Do P (Instr.storeAt 52 (e9 6) v74) (fun _ w => RdNow P (cellS 52 (e9 6)) w (fun vr0_2 => K (Value.tuple #[vr0_2, (Value.int .i64 1)]) w)) w) w) w) (@Eq (List Nat) [] [] ∧ j6 (upd e9 71 v71) w)) w) (fun k2 => Guard v56 true (Do P (Instr.fieldAt 60 (e7 5) 1) (fun v58 w => Do P (Instr.loadAt 28 v58) (fun v59 w => Do P (Instr.fieldAt 71 (e7 9) 0) (fun v60 w => Do P (Instr.fieldAt 69 v60 2) (fun v61 w => Do P (Instr.loadAt 3 v61) (fun v62 w => Do P (Instr.fieldAt 71 (e7 9) 1) (fun v63 w => Do P (Instr.loadAt 3 v63) (fun v64 w => Do P (Instr.fieldAt 60 (e7 5) 4) (fun v65 w => Do P (Instr.loadAt 9 v65) (fun v66 w => Do P (Instr.fieldAt 60 (e7 5) 5) (fun v67 w => Do P (Instr.loadAt 31 v67) (fun v68 w => CallN P (callS (fnv 55) #[v59, v62, v64, v66, v68]) (fun v69 w => Do P (eqS .eql 40 false true v69 (Value.int .i64 0)) (fun v70 w => k2 (upd (upd (upd (upd (upd (upd (upd (upd (upd (upd (upd (upd (upd (upd (upd (upd (upd (upd (upd (upd (upd e7 50 v50) 51 v51) 52 v52) 53 v53) 54 v54) 55 v55) 56 v56) 57 v56) 58 v58) 59 v59) 60 v60) 61 v61) 62 v62) 63 v63) 64 v64) 65 v65) 66 v66) 67 v67) 68 v68) 69 v69) 70 v70) w) w) w) w) w) w) w) w) w) w) w) w) w) w) (k2 (upd (upd (upd (upd (upd (upd (upd (upd (upd (upd (upd (upd (upd (upd (upd (upd (upd (upd (upd (upd (upd e7 50 v50) 51 v51) 52 v52) 53 v53) 54 v54) 55 v55) 56 v56) 57 v56) 58 undef) 59 undef) 60 undef) 61 undef) 62 undef) 63 undef) 64 undef) 65 undef) 66 undef) 67 undef) 68 undef) 69 undef) 70 undef) w))) w) w) w) w) w) w)) (@Eq (List Nat) [] [] ∧ j3 (upd e7 50 v50) w)) w

def F27_p2 (P : Program) (K : Value → World → Prop) (j3 : Env → World → Prop) (e6 : Env) (w : World) : Prop :=
  Do P (Instr.fieldAt 60 (e6 5) 0) (fun v41 w => Do P (Instr.loadAt 3 v41) (fun v42 w => Do P (eqS .eql 3 false true v42 (Value.int .i64 7)) (fun v43 w => Join (F27_p1 P K j3) (fun k1 => Guard v43 true (Do P (Instr.fieldAt 71 (e6 9) 2) (fun v45 w => Do P (Instr.loadAt 23 v45) (fun v46 w => Do P (Instr.fieldAt 60 (e6 5) 3) (fun v47 w => Do P (Instr.loadAt 23 v47) (fun v48 w => Do P (eqS .eql 23 false false v46 v48) (fun v49 w => k1 (upd (upd (upd (upd (upd (upd (upd (upd (upd e6 41 v41) 42 v42) 43 v43) 44 v43) 45 v45) 46 v46) 47 v47) 48 v48) 49 v49) w) w) w) w) w) w) (k1 (upd (upd (upd (upd (upd (upd (upd (upd (upd e6 41 v41) 42 v42) 43 v43) 44 v43) 45 undef) 46 undef) 47 undef) 48 undef) 49 undef) w))) w) w) w

def F27_p3 (P : Program) (K : Value → World → Prop) (j3 : Env → World → Prop) (e5 : Env) (w : World) : Prop :=
  JoinC P (F27_p2 P K j3) (fun j5 => Do P (Instr.fieldAt 60 (e5 5) 0) (fun v35 w => Do P (Instr.loadAt 3 v35) (fun v36 w => Do P (eqS .eql 3 false true v36 (Value.int .i64 3)) (fun v37 w => Cond v37 (Do P (Instr.loadAt 52 (e5 3)) (fun v38 w => CallN P (callS (fnv 54) #[v38, (e5 8)]) (fun v40 w => Do P (Instr.storeAt 52 (e5 6) v40) (fun _ w => RdNow P (cellS 52 (e5 6)) w (fun vr0_3 => K (Value.tuple #[vr0_3, (Value.int .i64 2)]) w)) w) w) w) (@Eq (List Nat) [] [] ∧ j5 (upd (upd (upd e5 35 v35) 36 v36) 37 v37) w)) w) w) w)

def F27_p4 (P : Program) (next1 : Env → World → Prop) (K : Value → World → Prop) (e3 : Env) (w : World) : Prop :=
  JoinC P (fun e4 w => Do P (binOp .add 3 (e4 8) (Value.int .i64 1)) (fun v16 w => @Eq (List Nat) [] [] ∧ next1 (upd (upd (upd e4 15 (e4 8)) 16 v16) 8 v16) w) w) (fun j3 => Do P (Instr.fieldAt 52 (e3 3) 1) (fun v17 w => Do P (Instr.loadAt 50 v17) (fun v18 w => Do P (Instr.indexAt 50 v18 (e3 8)) (fun v20 w => Do P (Instr.loadAt 71 v20) (fun v21 w => Do P (Instr.alloc 71 true (Value.tuple #[])) (fun v9 w => Do P (Instr.storeAt 71 v9 v21) (fun _ w => JoinC P (F27_p3 P K j3) (fun j4 => Do P (Instr.fieldAt 71 v9 0) (fun v22 w => Do P (Instr.fieldAt 69 v22 0) (fun v23 w => Do P (Instr.loadAt 3 v23) (fun v24 w => Do P (eqS .neq 3 false false v24 (e3 1)) (fun v26 w => Join (fun e10 w => CallN P (pickS (e10 27) (Value.bool true) (e10 33)) (fun v34 w => Cond v34 (@Eq (List Nat) [] [] ∧ j3 (upd e10 34 v34) w) (@Eq (List Nat) [] [] ∧ j4 (upd e10 34 v34) w)) w) (fun k3 => Guard v26 false (Do P (Instr.fieldAt 71 v9 0) (fun v28 w => Do P (Instr.fieldAt 69 v28 1) (fun v29 w => Do P (Instr.loadAt 28 v29) (fun v30 w => Do P (Instr.fieldAt 60 (e3 5) 1) (fun v31 w => Do P (Instr.loadAt 28 v31) (fun v32 w => Do P (eqS .neq 28 false false v30 v32) (fun v33 w => k3 (upd (upd (upd (upd (upd (upd (upd (upd (upd (upd (upd (upd (upd (upd (upd (upd (upd (upd e3 17 v17) 18 v18) 19 (e3 8)) 20 v20) 21 v21) 9 v9) 22 v22) 23 v23) 24 v24) 25 (e3 1)) 26 v26) 27 v26) 28 v28) 29 v29) 30 v30) 31 v31) 32 v32) 33 v33) w) w) w) w) w) w) w) (k3 (upd (upd (upd (upd (upd (upd (upd (upd (upd (upd (upd (upd (upd (upd (upd (upd (upd (upd e3 17 v17) 18 v18) 19 (e3 8)) 20 v20) 21 v21) 9 v9) 22 v22) 23 v23) 24 v24) 25 (e3 1)) 26 v26) 27 v26) 28 undef) 29 undef) 30 undef) 31 undef) 32 undef) 33 undef) w))) w) w) w) w)) w) w) w) w) w) w)

/-- bailee/baileeref24.Handle -/
def F27 (P : Program) (K : Value → World → Prop) (v0 v1 v2 : Value) (w : World) : Prop :=
  Do P (Instr.box 52 v0) (fun v3 w => Do P (Instr.box 60 v2) (fun v5 w => Do P (Instr.alloc 52 true (Value.tuple #[])) (fun v6 w => JoinC P (fun e1 w => Do P (Instr.loadAt 52 (e1 3)) (fun v78 w => Do P (Instr.storeAt 52 (e1 6) v78) (fun _ w => RdNow P (cellS 52 (e1 6)) w (fun vr0 => K (Value.tuple #[vr0, (Value.int .i64 0)]) w)) w) w) (fun j1 => Loop [10, 11, 12, 13, 14, 17, 18, 19, 20, 21, 9, 22, 23, 24, 25, 26, 27, 28, 29, 30, 31, 32, 33, 34, 35, 36, 37, 38, 39, 40, 7, 41, 42, 43, 44, 45, 46, 47, 48, 49, 50, 51, 52, 53, 54, 55, 56, 57, 58, 59, 60, 61, 62, 63, 64, 65, 66, 67, 68, 69, 70, 71, 72, 73, 74, 75, 76, 77, 15, 16, 8] (upd (upd (upd (upd (upd (env0 [v0, v1, v2]) 3 v3) 5 v5) 6 v6) 7 (Value.int .i64 0)) 8 (Value.int .i64 0)) w (fun e2 next1 w => JoinC P (F27_p4 P next1 K) (fun j2 => Do P (Instr.fieldAt 52 (e2 3) 1) (fun v11 w => Do P (Instr.loadAt 50 v11) (fun v12 w => CallN P (builtin .len #[50] 3 #[false] #[v12]) (fun v13 w => Do P (binOp .lss 3 (e2 8) v13) (fun v14 w => Cond v14 (@Eq (List Nat) [] [] ∧ j2 (upd (upd (upd (upd (upd e2 10 (e2 8)) 11 v11) 12 v12) 13 v13) 14 v14) w) (@Eq (List Nat) [] [] ∧ j1 (upd (upd (upd (upd (upd e2 10 (e2 8)) 11 v11) 12 v12) 13 v13) 14 v14) w)) w) w) w) w)))) w) w) w

def H27 : Hints := [(5, false, false, [], .ch 0 [] (.ch 1 [] (.ch 2 [] (.ch 3 [] (.ch 4 [] (.ch 5 [] (.grp 5 false [(6, none), (7, none), (8, none), (9, none), (10, none), (11, none)] (.ch 12 [] (.done))))))))), (8, false, false, [], .ch 0 [] (.ch 1 [] (.ch 2 [] (.ch 3 [] (.grp 3 true [(4, none), (5, none), (6, none), (7, none), (8, none)] (.ch 9 [] (.done))))))), (9, false, false, [], .ch 0 [] (.ch 1 [] (.ch 2 [] (.ch 3 [] (.ch 4 [] (.ch 5 [] (.ch 6 [] (.grp 6 true [(7, none), (8, none), (9, none), (10, none), (11, none), (12, none), (13, none), (14, none), (15, none), (16, none), (17, none), (18, none), (19, none)] (.ch 20 [] (.done))))))))))]

theorem F27_eq (K : Value → World → Prop) (v0 v1 v2 : Value) (w : World) : F27 Tryd.prog K v0 v1 v2 w = pt Tryd.prog H27 none Tryd.f27.ntmps (bodyOf Tryd.f27) (RetQ Tryd.prog Tryd.f27.results K) (env0 [v0, v1, v2]) [] w := by kernel_rfl

theorem F27_ok : codeOk cvTryd H27 (bodyOf Tryd.f27) = true := by kernel_rfl

theorem F27_has : Tryd.f27.body.isSome = true ∧ Nat.ble 3 Tryd.f27.ntmps = true := ⟨by kernel_rfl, by kernel_rfl⟩

theorem F27_calls {K : Value → World → Prop} {v0 v1 v2 : Value} {w : World} (h : F27 Tryd.prog K v0 v1 v2 w) : Calls Tryd.prog 27 #[v0, v1, v2] w (Returns K) :=
  calls_of_eq (cv := cvTryd) (H := H27) (fn := Tryd.f27) (args := [v0, v1, v2]) mixedTryd Tryd.func27 F27_has F27_ok (F27_eq K v0 v1 v2 w) h

def F28_p1 (P : Program) (j3 : Env → World → Prop) (e5 : Env) (w : World) : Prop :=
  CallN P (pickS (e5 23) (e5 26) (Value.bool false)) (fun v27 w => Join (fun e6 w => CallN P (pickS (e6 28) (e6 33) (Value.bool false)) (fun v34 w => Cond v34 (Do P (Instr.indexAt 123 (e6 6) (e6 9)) (fun v37 w => Do P (Instr.storeAt 4 v37 (Value.bool true)) (fun _ w => Do P (binOp .add 3 (e6 7) (Value.int .i64 1)) (fun v39 w => @Eq (List Nat) [] [] ∧ j3 (upd (upd (upd (upd (upd (upd (upd e6 34 v34) 35 (e6 6)) 36 (e6 9)) 37 v37) 38 (e6 7)) 39 v39) 7 v39) w) w) w) w) (@Eq (List Nat) [] [] ∧ j3 (upd e6 34 v34) w)) w) (fun k2 => Guard v27 true (Do P (Instr.indexAt 123 (e5 6) (e5 9)) (fun v31 w => Do P (Instr.loadAt 4 v31) (fun v32 w => Do P (Op.unary .not v32) (fun v33 w => k2 (upd (upd (upd (upd (upd (upd (upd e5 27 v27) 28 v27) 29 (e5 6)) 30 (e5 9)) 31 v31) 32 v32) 33 v33) w) w) w) w) (k2 (upd (upd (upd (upd (upd (upd (upd e5 27 v27) 28 v27) 29 undef) 30 undef) 31 undef) 32 undef) 33 undef) w))) w

def F28_p2 (P : Program) (next1 : Env → World → Prop) (e3 : Env) (w : World) : Prop :=
  JoinC P (fun e4 w => Do P (binOp .add 3 (e4 17) (Value.int .i64 1)) (fun v40 w => @Eq (List Nat) [] [] ∧ next1 (upd (upd e4 40 v40) 17 v40) w) w) (fun j3 => Do P (Instr.indexAt 65 (e3 15) (e3 17)) (fun v19 w => Do P (Instr.loadAt 3 v19) (fun v20 w => Do P (binOp .geq 3 v20 (Value.int .i64 0)) (fun v22 w => Join (F28_p1 P j3) (fun k1 => Guard v22 true (Do P (binOp .lss 3 v20 (e3 0)) (fun v26 w => k1 (upd (upd (upd (upd (upd (upd (upd (upd (upd e3 19 v19) 20 v20) 9 v20) 21 v20) 22 v22) 23 v22) 24 v20) 25 (e3 0)) 26 v26) w) w) (k1 (upd (upd (upd (upd (upd (upd (upd (upd (upd e3 19 v19) 20 v20) 9 v20) 21 v20) 22 v22) 23 v22) 24 undef) 25 undef) 26 undef) w))) w) w) w)

/-- bailee/audit.Chance -/
def F28 (P : Program) (K : Value → World → Prop) (v0 v1 : Value) (w : World) : Prop :=
  CallN P (builtin .max #[3, 3] 3 #[false, true] #[v0, (Value.int .i64 0)]) (fun v11 w => CallN P (builtin .min #[3, 3] 3 #[false, true] #[v11, (Value.int .i64 65536)]) (fun v12 w => Do P (Instr.makeSlice 123 v12 v12) (fun v14 w => JoinC P (fun e1 w => K (Value.tuple #[(e1 7), (e1 0)]) w) (fun j1 => CallN P (builtin .len #[65] 3 #[false] #[v1]) (fun v16 w => Loop [18, 19, 20, 9, 21, 22, 23, 24, 25, 26, 27, 28, 29, 30, 31, 32, 33, 34, 35, 36, 37, 38, 39, 7, 40, 17] (upd (upd (upd (upd (upd (upd (upd (upd (upd (upd (upd (upd (upd (env0 [v0, v1]) 4 (Value.int .i64 0)) 5 (Value.int .i64 0)) 10 v0) 11 v11) 12 v12) 0 v12) 13 v12) 14 v14) 6 v14) 7 (Value.int .i64 0)) 15 v1) 16 v16) 17 (Value.int .i64 0)) w (fun e2 next1 w => Do P (binOp .lss 3 (e2 17) (e2 16)) (fun v18 w => JoinC P (F28_p2 P next1) (fun j2 => Cond v18 (@Eq (List Nat) [] [] ∧ j2 (upd e2 18 v18) w) (@Eq (List Nat) [] [] ∧ j1 (upd e2 18 v18) w))) w)) w)) w) w) w

def H28 : Hints := [(7, false, false, [], .ch 0 [] (.ch 1 [] (.ch 2 [] (.grp 2 true [(3, none), (4, none), (5, none)] (.ch 6 [] (.ch 7 [] (.grp 7 true [(8, none), (9, none), (10, none), (11, none), (12, none)] (.ch 13 [] (.done)))))))))]

theorem F28_eq (K : Value → World → Prop) (v0 v1 : Value) (w : World) : F28 Tryd.prog K v0 v1 w = pt Tryd.prog H28 none Tryd.f28.ntmps (bodyOf Tryd.f28) (RetQ Tryd.prog Tryd.f28.results K) (env0 [v0, v1]) [] w := by kernel_rfl

theorem F28_ok : codeOk cvTryd H28 (bodyOf Tryd.f28) = true := by kernel_rfl

theorem F28_has : Tryd.f28.body.isSome = true ∧ Nat.ble 2 Tryd.f28.ntmps = true := ⟨by kernel_rfl, by kernel_rfl⟩

theorem F28_calls {K : Value → World → Prop} {v0 v1 : Value} {w : World} (h : F28 Tryd.prog K v0 v1 w) : Calls Tryd.prog 28 #[v0, v1] w (Returns K) :=
  calls_of_eq (cv := cvTryd) (H := H28) (fn := Tryd.f28) (args := [v0, v1]) mixedTryd Tryd.func28 F28_has F28_ok (F28_eq K v0 v1 w) h

def F29_p1 (P : Program) (next1 : Env → World → Prop) (e3 : Env) (w : World) : Prop :=
  JoinC P (fun e4 w => Do P (binOp .add 3 (e4 9) (Value.int .i64 1)) (fun v20 w => @Eq (List Nat) [] [] ∧ next1 (upd (upd e4 20 v20) 9 v20) w) w) (fun j3 => Do P (Instr.indexAt 101 (e3 7) (e3 9)) (fun v11 w => Do P (Instr.loadAt 22 v11) (fun v12 w => CallN P (callS (fnv 56) #[v12]) (fun v15 w => Do P (Instr.buildSlice 101 1 #[(0, v15)]) (fun v16 w => CallN P (callS (fnv 31) #[v16]) (fun v17 w => Do P (Instr.buildSlice 31 1 #[(0, v17)]) (fun v18 w => CallN P (builtin .append #[31, 31] 31 #[false, false] #[(e3 3), v18]) (fun v19 w => @Eq (List Nat) [] [] ∧ j3 (upd (upd (upd (upd (upd (upd (upd (upd (upd (upd (upd e3 11 v11) 12 v12) 5 v12) 13 (e3 3)) 14 v12) 15 v15) 16 v16) 17 v17) 18 v18) 19 v19) 3 v19) w) w) w) w) w) w) w) w)

/-- bailee/proof.digests -/
def F29 (P : Program) (K : Value → World → Prop) (v0 : Value) (w : World) : Prop :=
  JoinC P (fun e1 w => K (e1 3) w) (fun j1 => CallN P (callS (fnv 38) #[v0]) (fun v7 w => CallN P (builtin .len #[101] 3 #[false] #[v7]) (fun v8 w => Loop [10, 11, 12, 5, 13, 14, 15, 16, 17, 18, 19, 3, 20, 9] (upd (upd (upd (upd (upd (upd (env0 [v0]) 2 (Value.slice none 0 0)) 3 (Value.slice none 0 0)) 6 v0) 7 v7) 8 v8) 9 (Value.int .i64 0)) w (fun e2 next1 w => Do P (binOp .lss 3 (e2 9) (e2 8)) (fun v10 w => JoinC P (F29_p1 P next1) (fun j2 => Cond v10 (@Eq (List Nat) [] [] ∧ j2 (upd e2 10 v10) w) (@Eq (List Nat) [] [] ∧ j1 (upd e2 10 v10) w))) w)) w) w)

def H29 : Hints := []

theorem F29_eq (K : Value → World → Prop) (v0 : Value) (w : World) : F29 Tryd.prog K v0 w = pt Tryd.prog H29 none Tryd.f29.ntmps (bodyOf Tryd.f29) (RetQ Tryd.prog Tryd.f29.results K) (env0 [v0]) [] w := by kernel_rfl

theorem F29_ok : codeOk cvTryd H29 (bodyOf Tryd.f29) = true := by kernel_rfl

theorem F29_has : Tryd.f29.body.isSome = true ∧ Nat.ble 1 Tryd.f29.ntmps = true := ⟨by kernel_rfl, by kernel_rfl⟩

theorem F29_calls {K : Value → World → Prop} {v0 : Value} {w : World} (h : F29 Tryd.prog K v0 w) : Calls Tryd.prog 29 #[v0] w (Returns K) :=
  calls_of_eq (cv := cvTryd) (H := H29) (fn := Tryd.f29) (args := [v0]) mixedTryd Tryd.func29 F29_has F29_ok (F29_eq K v0 w) h

/-- bailee/proof.above -/
def F30 (P : Program) (K : Value → World → Prop) (v0 : Value) (w : World) : Prop :=
  Do P (Instr.alloc 31 true (Value.tuple #[])) (fun v3 w => JoinD (fun e1 ds1 w => Do P (Instr.loadAt 31 (e1 3)) (fun v28 w => RetM P #[.tmp 2] K (upd (upd e1 28 v28) 2 v28) ds1 w) w) (fun j1 => CallN P (callS (fnv 57) #[v0, (Value.int .i64 2)]) (fun v7 w => RangeF P none 29 v7 #[8] (rfA Tryd.f30 0) (rfB Tryd.f30 0) (inBlk 0 (thenQ j1 (RetQ P #[.tmp 2] K))) (upd (upd (upd (upd (env0 [v0]) 2 (Value.slice none 0 0)) 3 v3) 6 v0) 7 v7) [] w) w)) w

def H30 : Hints := [(6, true, false, [0, 0, 0, 0, 0, 0, 0, 0, 0, 0], .rd 0 true 0 (.rd 1 false 0 (.rd 2 false 0 (.rd 3 true 0 (.rd 4 false 0 (.rd 5 false 0 (.ch 6 [] (.ch 7 [] (.ch 8 [] (.ch 9 [] (.done)))))))))))]

theorem F30_eq (K : Value → World → Prop) (v0 : Value) (w : World) : F30 Tryd.prog K v0 w = pt Tryd.prog H30 none Tryd.f30.ntmps (bodyOf Tryd.f30) (RetQ Tryd.prog Tryd.f30.results K) (env0 [v0]) [] w := by kernel_rfl

theorem F30_ok : codeOk cvTryd H30 (bodyOf Tryd.f30) = true := by kernel_rfl

theorem F30_has : Tryd.f30.body.isSome = true ∧ Nat.ble 1 Tryd.f30.ntmps = true := ⟨by kernel_rfl, by kernel_rfl⟩

theorem F30_calls {K : Value → World → Prop} {v0 : Value} {w : World} (h : F30 Tryd.prog K v0 w) : Calls Tryd.prog 30 #[v0] w (Returns K) :=
  calls_of_eq (cv := cvTryd) (H := H30) (fn := Tryd.f30) (args := [v0]) mixedTryd Tryd.func30 F30_has F30_ok (F30_eq K v0 w) h

def R30_0A (P : Program) (l : Nat) (Q : QQ) (e : Env) (ds : List Nat) (w : World) : Prop :=
  Q .normal (upd e 4 (e 8)) ds w

theorem R30_0A_eq (l : Nat) (Q : QQ) (e : Env) (ds : List Nat) (w : World) : R30_0A Tryd.prog l Q e ds w = pt Tryd.prog H30 (some l) 29 (rfA Tryd.f30 0) Q e ds w := by kernel_rfl

theorem R30_0A_ok : codeOk cvTryd H30 (rfA Tryd.f30 0) = true := by kernel_rfl

def R30_0B (P : Program) (l : Nat) (Q : QQ) (e : Env) (ds : List Nat) (w : World) : Prop :=
  Do P (Instr.indexAt 31 (e 4) (Value.int .i64 0)) (fun v10 w => Do P (Instr.loadAt 28 v10) (fun v11 w => Do P (Instr.alloc 28 true (Value.tuple #[])) (fun v5 w => Do P (Instr.storeAt 28 v5 v11) (fun _ w => JoinC P (fun e2 w => Do P (Instr.loadAt 31 (e2 3)) (fun v24 w => Do P (Instr.loadAt 28 (e2 5)) (fun v25 w => Do P (Instr.buildSlice 31 1 #[(0, v25)]) (fun v26 w => CallN P (builtin .append #[31, 31] 31 #[false, false] #[v24, v26]) (fun v27 w => Do P (Instr.storeAt 31 (e2 3) v27) (fun _ w => Q .normal (upd (upd (upd (upd e2 24 v24) 25 v25) 26 v26) 27 v27) ds w) w) w) w) w) w) (fun j2 => CallN P (builtin .len #[31] 3 #[false] #[(e 4)]) (fun v13 w => Do P (eqS .eql 3 false true v13 (Value.int .i64 2)) (fun v14 w => Cond v14 (Drew (fun w => Draw (fun S1 w => RdS P (S1 0) (Instr.indexAt 31 (e 4) (Value.int .i64 0)) (fun v16 => RdS P (S1 0) (Instr.loadAt 28 v16) (fun v17 => RdS P (S1 0) (Instr.indexAt 31 (e 4) (Value.int .i64 1)) (fun v19 => RdS P (S1 0) (Instr.loadAt 28 v19) (fun v20 => CallN P (callS (fnv 58) #[v17, v20]) (fun v21 w => Do P (Instr.buildSlice 101 1 #[(0, v21)]) (fun v22 w => CallN P (callS (fnv 31) #[v22]) (fun v23 w => Do P (Instr.storeAt 28 v5 v23) (fun _ w => @Eq (List Nat) ds ds ∧ j2 (upd (upd (upd (upd (upd (upd (upd (upd (upd (upd (upd (upd (upd (upd (upd (upd e 9 (e 4)) 10 v10) 11 v11) 5 v5) 12 (e 4)) 13 v13) 14 v14) 15 (e 4)) 16 v16) 17 v17) 18 (e 4)) 19 v19) 20 v20) 21 v21) 22 v22) 23 v23) w) w) w) w) w))))) w) w) (@Eq (List Nat) ds ds ∧ j2 (upd (upd (upd (upd (upd (upd (upd e 9 (e 4)) 10 v10) 11 v11) 5 v5) 12 (e 4)) 13 v13) 14 v14) w)) w) w)) w) w) w) w

theorem R30_0B_eq (l : Nat) (Q : QQ) (e : Env) (ds : List Nat) (w : World) : R30_0B Tryd.prog l Q e ds w = pt Tryd.prog H30 (some l) 29 (rfB Tryd.f30 0) Q e ds w := by kernel_rfl

theorem R30_0B_ok : codeOk cvTryd H30 (rfB Tryd.f30 0) = true := by kernel_rfl

def F31_p1 (P : Program) (next1 : Env → World → Prop) (e6 : Env) (w : World) : Prop :=
  JoinC P (fun e7 w => Do P (binOp .add 3 (e7 45) (Value.int .i64 1)) (fun v60 w => @Eq (List Nat) [] [] ∧ next1 (upd (upd e7 60 v60) 45 v60) w) w) (fun j6 => Do P (binOp .quo 3 (e6 45) (Value.int .i64 4)) (fun v50 w => Do P (Instr.indexAt 111 (e6 6) v50) (fun v51 w => Do P (Instr.loadAt 110 v51) (fun v52 w => Do P (binOp .rem 3 (e6 45) (Value.int .i64 4)) (fun v54 w => Do P (binOp .mul 3 v54 (Value.int .i64 8)) (fun v55 w => Do P (binOp .sub 3 (Value.int .i64 24) v55) (fun v56 w => Do P (binOp .shr 110 v52 v56) (fun v57 w => Do P (convert 110 5 v57) (fun v58 w => Do P (Instr.indexAt 28 (e6 7) (e6 45)) (fun v59 w => Do P (Instr.storeAt 5 v59 v58) (fun _ w => @Eq (List Nat) [] [] ∧ j6 (upd (upd (upd (upd (upd (upd (upd (upd (upd (upd (upd (upd (upd (upd e6 47 (e6 45)) 8 (e6 45)) 48 (e6 45)) 49 (e6 45)) 50 v50) 51 v51) 52 v52) 53 (e6 45)) 54 v54) 55 v55) 56 v56) 57 v57) 58 v58) 59 v59) w) w) w) w) w) w) w) w) w) w) w)

def F31_p2 (P : Program) (K : Value → World → Prop) (e3 : Env) (w : World) : Prop :=
  Do P (Instr.alloc 28 true (Value.tuple #[])) (fun v7 w => JoinC P (fun e4 w => Do P (Instr.loadAt 28 (e4 7)) (fun v61 w => Do P (Instr.storeAt 28 (e4 2) v61) (fun _ w => RdNow P (cellS 28 (e4 2)) w (fun vr0 => K vr0 w)) w) w) (fun j4 => Loop [46, 47, 8, 48, 49, 50, 51, 52, 53, 54, 55, 56, 57, 58, 59, 60, 45] (upd (upd e3 7 v7) 45 (Value.int .i64 0)) w (fun e5 next1 w => Do P (binOp .lss 3 (e5 45) (Value.int .i64 32)) (fun v46 w => JoinC P (F31_p1 P next1) (fun j5 => Cond v46 (@Eq (List Nat) [] [] ∧ j5 (upd e5 46 v46) w) (@Eq (List Nat) [] [] ∧ j4 (upd e5 46 v46) w))) w))) w

def F31_p3 (P : Program) (j3 : Env → World → Prop) (e8 : Env) (next2 : Env → World → Prop) (w : World) : Prop :=
  JoinC P (fun e9 w => JoinC P (fun e10 w => Do P (Instr.sliceAt 22 (e10 3) (some (Value.int .i64 64)) none none) (fun v41 w => @Eq (List Nat) [] [] ∧ next2 (upd (upd (upd e10 40 (e10 3)) 41 v41) 3 v41) w) w) (fun j8 => Do P (Instr.loadAt 111 (e9 6)) (fun v42 w => CallN P (callS (fnv 61) #[v42, (e9 3)]) (fun v44 w => Do P (Instr.storeAt 111 (e9 6) v44) (fun _ w => @Eq (List Nat) [] [] ∧ j8 (upd (upd (upd e9 42 v42) 43 (e9 3)) 44 v44) w) w) w) w)) (fun j7 => CallN P (builtin .len #[22] 3 #[false] #[(e8 3)]) (fun v38 w => Do P (binOp .gtr 3 v38 (Value.int .i64 0)) (fun v39 w => Cond v39 (@Eq (List Nat) [] [] ∧ j7 (upd (upd (upd e8 37 (e8 3)) 38 v38) 39 v39) w) (@Eq (List Nat) [] [] ∧ j3 (upd (upd (upd e8 37 (e8 3)) 38 v38) 39 v39) w)) w) w)

def F31_p4 (P : Program) (next3 : Env → World → Prop) (e12 : Env) (w : World) : Prop :=
  JoinC P (fun e13 w => Do P (binOp .sub 3 (e13 5) (Value.int .i64 8)) (fun v28 w => @Eq (List Nat) [] [] ∧ next3 (upd (upd (upd e13 27 (e13 5)) 28 v28) 5 v28) w) w) (fun j10 => Do P (binOp .shr 23 (e12 4) (e12 5)) (fun v32 w => Do P (convert 23 5 v32) (fun v33 w => Do P (Instr.buildSlice 22 1 #[(0, v33)]) (fun v34 w => CallN P (builtin .append #[22, 22] 22 #[false, false] #[(e12 3), v34]) (fun v35 w => @Eq (List Nat) [] [] ∧ j10 (upd (upd (upd (upd (upd (upd (upd (upd e12 29 (e12 3)) 30 (e12 4)) 31 (e12 5)) 32 v32) 33 v33) 34 v34) 35 v35) 3 v35) w) w) w) w) w)

def F31_p5 (P : Program) (K : Value → World → Prop) (e1 : Env) (w : World) : Prop :=
  JoinC P (fun e2 w => CallN P (callS (fnv 60) #[]) (fun v36 w => Do P (Instr.alloc 111 true (Value.tuple #[])) (fun v6 w => Do P (Instr.storeAt 111 v6 v36) (fun _ w => JoinC P (F31_p2 P K) (fun j3 => Loop [37, 38, 39, 42, 43, 44, 40, 41, 3] (upd (upd e2 36 v36) 6 v6) w (F31_p3 P j3))) w) w) w) (fun j2 => Loop [25, 26, 29, 30, 31, 32, 33, 34, 35, 3, 27, 28, 5] (upd e1 5 (Value.int .i64 56)) w (fun e11 next3 w => JoinC P (F31_p4 P next3) (fun j9 => Do P (binOp .geq 3 (e11 5) (Value.int .i64 0)) (fun v26 w => Cond v26 (@Eq (List Nat) [] [] ∧ j9 (upd (upd e11 25 (e11 5)) 26 v26) w) (@Eq (List Nat) [] [] ∧ j2 (upd (upd e11 25 (e11 5)) 26 v26) w)) w)))

def F31_p6 (P : Program) (j1 : Env → World → Prop) (e14 : Env) (next4 : Env → World → Prop) (w : World) : Prop :=
  JoinC P (fun e15 w => Do P (Instr.buildSlice 22 1 #[(0, (Value.int .u8 0))]) (fun v23 w => CallN P (builtin .append #[22, 22] 22 #[false, false] #[(e15 3), v23]) (fun v24 w => @Eq (List Nat) [] [] ∧ next4 (upd (upd (upd (upd e15 22 (e15 3)) 23 v23) 24 v24) 3 v24) w) w) w) (fun j11 => CallN P (builtin .len #[22] 3 #[false] #[(e14 3)]) (fun v19 w => Do P (binOp .rem 3 v19 (Value.int .i64 64)) (fun v20 w => Do P (eqS .neq 3 false true v20 (Value.int .i64 56)) (fun v21 w => Cond v21 (@Eq (List Nat) [] [] ∧ j11 (upd (upd (upd (upd e14 18 (e14 3)) 19 v19) 20 v20) 21 v21) w) (@Eq (List Nat) [] [] ∧ j1 (upd (upd (upd (upd e14 18 (e14 3)) 19 v19) 20 v20) 21 v21) w)) w) w) w)

/-- bailee/digest.Of -/
def F31 (P : Program) (K : Value → World → Prop) (v0 : Value) (w : World) : Prop :=
  Do P (Instr.alloc 28 true (Value.tuple #[])) (fun v2 w => CallN P (callS (fnv 59) #[v0, (Value.slice none 0 0)]) (fun v10 w => CallN P (builtin .len #[22] 3 #[false] #[v10]) (fun v12 w => Do P (convert 3 23 v12) (fun v13 w => Do P (binOp .mul 23 v13 (Value.int .u64 8)) (fun v14 w => Do P (Instr.buildSlice 22 1 #[(0, (Value.int .u8 128))]) (fun v16 w => CallN P (builtin .append #[22, 22] 22 #[false, false] #[v10, v16]) (fun v17 w => JoinC P (F31_p5 P K) (fun j1 => Loop [18, 19, 20, 21, 22, 23, 24, 3] (upd (upd (upd (upd (upd (upd (upd (upd (upd (upd (upd (upd (upd (env0 [v0]) 2 v2) 9 v0) 10 v10) 3 v10) 11 v10) 12 v12) 13 v13) 14 v14) 4 v14) 15 v10) 16 v16) 17 v17) 3 v17) w (F31_p6 P j1))) w) w) w) w) w) w) w

def H31 : Hints := []

theorem F31_eq (K : Value → World → Prop) (v0 : Value) (w : World) : F31 Tryd.prog K v0 w = pt Tryd.prog H31 none Tryd.f31.ntmps (bodyOf Tryd.f31) (RetQ Tryd.prog Tryd.f31.results K) (env0 [v0]) [] w := by kernel_rfl

theorem F31_ok : codeOk cvTryd H31 (bodyOf Tryd.f31) = true := by kernel_rfl

theorem F31_has : Tryd.f31.body.isSome = true ∧ Nat.ble 1 Tryd.f31.ntmps = true := ⟨by kernel_rfl, by kernel_rfl⟩

theorem F31_calls {K : Value → World → Prop} {v0 : Value} {w : World} (h : F31 Tryd.prog K v0 w) : Calls Tryd.prog 31 #[v0] w (Returns K) :=
  calls_of_eq (cv := cvTryd) (H := H31) (fn := Tryd.f31) (args := [v0]) mixedTryd Tryd.func31 F31_has F31_ok (F31_eq K v0 w) h

def F32_p1 (P : Program) (next1 : Env → World → Prop) (e3 : Env) (w : World) : Prop :=
  JoinC P (fun e4 w => Do P (binOp .add 3 (e4 8) (Value.int .i64 1)) (fun v20 w => @Eq (List Nat) [] [] ∧ next1 (upd (upd e4 20 v20) 8 v20) w) w) (fun j3 => Do P (convert 3 23 (e3 0)) (fun v13 w => Do P (binOp .mul 3 (Value.int .i64 8) (e3 8)) (fun v15 w => Do P (binOp .shr 23 v13 v15) (fun v16 w => Do P (convert 23 5 v16) (fun v17 w => Do P (Instr.buildSlice 22 1 #[(0, v17)]) (fun v18 w => CallN P (builtin .append #[22, 22] 22 #[false, false] #[(e3 5), v18]) (fun v19 w => @Eq (List Nat) [] [] ∧ j3 (upd (upd (upd (upd (upd (upd (upd (upd (upd (upd (upd (upd e3 10 (e3 8)) 6 (e3 8)) 11 (e3 5)) 12 (e3 0)) 13 v13) 14 (e3 8)) 15 v15) 16 v16) 17 v17) 18 v18) 19 v19) 5 v19) w) w) w) w) w) w) w)

/-- bailee/proof.crown -/
def F32 (P : Program) (K : Value → World → Prop) (v0 v1 : Value) (w : World) : Prop :=
  Do P (Instr.box 28 v1) (fun v3 w => Do P (Instr.buildSlice 22 1 #[(0, (Value.int .u8 2))]) (fun v7 w => JoinC P (fun e1 w => Do P (Instr.sliceAt 28 (e1 3) none none none) (fun v22 w => CallN P (builtin .append #[22, 22] 22 #[false, false] #[(e1 5), v22]) (fun v23 w => K v23 w) w) w) (fun j1 => Loop [9, 10, 6, 11, 12, 13, 14, 15, 16, 17, 18, 19, 5, 20, 8] (upd (upd (upd (upd (upd (env0 [v0, v1]) 3 v3) 4 (Value.slice none 0 0)) 7 v7) 5 v7) 8 (Value.int .i64 0)) w (fun e2 next1 w => Do P (binOp .lss 3 (e2 8) (Value.int .i64 8)) (fun v9 w => JoinC P (F32_p1 P next1) (fun j2 => Cond v9 (@Eq (List Nat) [] [] ∧ j2 (upd e2 9 v9) w) (@Eq (List Nat) [] [] ∧ j1 (upd e2 9 v9) w))) w))) w) w

def H32 : Hints := []

theorem F32_eq (K : Value → World → Prop) (v0 v1 : Value) (w : World) : F32 Tryd.prog K v0 v1 w = pt Tryd.prog H32 none Tryd.f32.ntmps (bodyOf Tryd.f32) (RetQ Tryd.prog Tryd.f32.results K) (env0 [v0, v1]) [] w := by kernel_rfl

theorem F32_ok : codeOk cvTryd H32 (bodyOf Tryd.f32) = true := by kernel_rfl

theorem F32_has : Tryd.f32.body.isSome = true ∧ Nat.ble 2 Tryd.f32.ntmps = true := ⟨by kernel_rfl, by kernel_rfl⟩

theorem F32_calls {K : Value → World → Prop} {v0 v1 : Value} {w : World} (h : F32 Tryd.prog K v0 v1 w) : Calls Tryd.prog 32 #[v0, v1] w (Returns K) :=
  calls_of_eq (cv := cvTryd) (H := H32) (fn := Tryd.f32) (args := [v0, v1]) mixedTryd Tryd.func32 F32_has F32_ok (F32_eq K v0 v1 w) h

def F33_p1 (P : Program) (next1 : Env → World → Prop) (e4 : Env) (w : World) : Prop :=
  JoinC P (fun e5 w => Do P (binOp .add 3 (e5 6) (Value.int .i64 1)) (fun v21 w => @Eq (List Nat) [] [] ∧ next1 (upd (upd (upd e5 20 (e5 6)) 21 v21) 6 v21) w) w) (fun j4 => Do P (Instr.indexAt 38 (e4 0) (e4 6)) (fun v24 w => Do P (Instr.loadAt 37 v24) (fun v25 w => Do P (Instr.alloc 37 true (Value.tuple #[])) (fun v7 w => Do P (Instr.storeAt 37 v7 v25) (fun _ w => Do P (Instr.loadAt 37 v7) (fun v27 w => CallN P (callS (e4 1) #[v27]) (fun v28 w => Do P (Op.unary .not v28) (fun v29 w => Cond v29 (Do P (Instr.loadAt 37 v7) (fun v32 w => Do P (Instr.indexAt 38 (e4 0) (e4 5)) (fun v33 w => Do P (Instr.storeAt 37 v33 v32) (fun _ w => Do P (binOp .add 3 (e4 5) (Value.int .i64 1)) (fun v35 w => @Eq (List Nat) [] [] ∧ j4 (upd (upd (upd (upd (upd (upd (upd (upd (upd (upd (upd (upd (upd (upd (upd (upd e4 22 (e4 0)) 23 (e4 6)) 24 v24) 25 v25) 7 v7) 26 (e4 1)) 27 v27) 28 v28) 29 v29) 30 (e4 0)) 31 (e4 5)) 32 v32) 33 v33) 34 (e4 5)) 35 v35) 5 v35) w) w) w) w) w) (@Eq (List Nat) [] [] ∧ j4 (upd (upd (upd (upd (upd (upd (upd (upd (upd e4 22 (e4 0)) 23 (e4 6)) 24 v24) 25 v25) 7 v7) 26 (e4 1)) 27 v27) 28 v28) 29 v29) w)) w) w) w) w) w) w) w)

def F33_p2 (P : Program) (K : Value → World → Prop) (e1 : Env) (w : World) : Prop :=
  JoinC P (fun e2 w => Do P (Instr.sliceAt 38 (e2 0) (some (e2 5)) none none) (fun v38 w => CallN P (builtin .clear #[38] 0 #[false] #[v38]) (fun _ w => Do P (Instr.sliceAt 38 (e2 0) none (some (e2 5)) none) (fun v41 w => K v41 w) w) w) w) (fun j2 => Do P (binOp .add 3 (e1 5) (Value.int .i64 1)) (fun v15 w => Loop [16, 17, 18, 19, 22, 23, 24, 25, 7, 26, 27, 28, 29, 30, 31, 32, 33, 34, 35, 5, 20, 21, 6] (upd (upd (upd e1 14 (e1 5)) 15 v15) 6 v15) w (fun e3 next1 w => JoinC P (F33_p1 P next1) (fun j3 => CallN P (builtin .len #[38] 3 #[false] #[(e3 0)]) (fun v18 w => Do P (binOp .lss 3 (e3 6) v18) (fun v19 w => Cond v19 (@Eq (List Nat) [] [] ∧ j3 (upd (upd (upd (upd e3 16 (e3 6)) 17 (e3 0)) 18 v18) 19 v19) w) (@Eq (List Nat) [] [] ∧ j2 (upd (upd (upd (upd e3 16 (e3 6)) 17 (e3 0)) 18 v18) 19 v19) w)) w) w))) w)

/-- slices.DeleteFunc[[]bailee/audit.Target,bailee/audit.Target] -/
def F33 (P : Program) (K : Value → World → Prop) (v0 v1 : Value) (w : World) : Prop :=
  CallN P (callS (fnv 62) #[v0, v1]) (fun v10 w => JoinC P (F33_p2 P K) (fun j1 => Do P (eqS .eql 3 false true v10 (Value.int .i64 (-1))) (fun v12 w => Cond v12 (K v0 w) (@Eq (List Nat) [] [] ∧ j1 (upd (upd (upd (upd (upd (upd (upd (env0 [v0, v1]) 4 (Value.slice none 0 0)) 8 v0) 9 v1) 10 v10) 5 v10) 11 v10) 12 v12) w)) w)) w

def H33 : Hints := []

theorem F33_eq (K : Value → World → Prop) (v0 v1 : Value) (w : World) : F33 Tryd.prog K v0 v1 w = pt Tryd.prog H33 none Tryd.f33.ntmps (bodyOf Tryd.f33) (RetQ Tryd.prog Tryd.f33.results K) (env0 [v0, v1]) [] w := by kernel_rfl

theorem F33_ok : codeOk cvTryd H33 (bodyOf Tryd.f33) = true := by kernel_rfl

theorem F33_has : Tryd.f33.body.isSome = true ∧ Nat.ble 2 Tryd.f33.ntmps = true := ⟨by kernel_rfl, by kernel_rfl⟩

theorem F33_calls {K : Value → World → Prop} {v0 v1 : Value} {w : World} (h : F33 Tryd.prog K v0 v1 w) : Calls Tryd.prog 33 #[v0, v1] w (Returns K) :=
  calls_of_eq (cv := cvTryd) (H := H33) (fn := Tryd.f33) (args := [v0, v1]) mixedTryd Tryd.func33 F33_has F33_ok (F33_eq K v0 v1 w) h

/-- slices.Clone[[]bailee/audit.Target,bailee/audit.Target] -/
def F34 (P : Program) (K : Value → World → Prop) (v0 : Value) (w : World) : Prop :=
  JoinC P (fun e1 w => Do P (Instr.buildSlice 38 0 #[]) (fun v5 w => CallN P (builtin .append #[38, 38] 38 #[false, false] #[v5, (e1 0)]) (fun v7 w => K v7 w) w) w) (fun j1 => Do P (eqS .eql 38 false true v0 (Value.slice none 0 0)) (fun v4 w => Cond v4 (K (Value.slice none 0 0) w) (@Eq (List Nat) [] [] ∧ j1 (upd (upd (upd (env0 [v0]) 2 (Value.slice none 0 0)) 3 v0) 4 v4) w)) w)

def H34 : Hints := []

theorem F34_eq (K : Value → World → Prop) (v0 : Value) (w : World) : F34 Tryd.prog K v0 w = pt Tryd.prog H34 none Tryd.f34.ntmps (bodyOf Tryd.f34) (RetQ Tryd.prog Tryd.f34.results K) (env0 [v0]) [] w := by kernel_rfl

theorem F34_ok : codeOk cvTryd H34 (bodyOf Tryd.f34) = true := by kernel_rfl

theorem F34_has : Tryd.f34.body.isSome = true ∧ Nat.ble 1 Tryd.f34.ntmps = true := ⟨by kernel_rfl, by kernel_rfl⟩

theorem F34_calls {K : Value → World → Prop} {v0 : Value} {w : World} (h : F34 Tryd.prog K v0 w) : Calls Tryd.prog 34 #[v0] w (Returns K) :=
  calls_of_eq (cv := cvTryd) (H := H34) (fn := Tryd.f34) (args := [v0]) mixedTryd Tryd.func34 F34_has F34_ok (F34_eq K v0 w) h

/-- (*bailee/audit.Auditor).Draw$1 -/
def F35 (P : Program) (K : Value → World → Prop) (v0 : Value) (w : World) : Prop :=
  Do P (Instr.box 37 v0) (fun v1 w => Do P (Instr.fieldAt 37 v1 2) (fun v3 w => Do P (Instr.loadAt 3 v3) (fun v4 w => Do P (binOp .lss 3 v4 (Value.int .i64 1)) (fun v5 w => Join (fun e1 w => CallN P (pickS (e1 6) (Value.bool true) (e1 9)) (fun v10 w => K v10 w) w) (fun k1 => Guard v5 false (Do P (Instr.fieldAt 37 v1 2) (fun v7 w => Do P (Instr.loadAt 3 v7) (fun v8 w => Do P (binOp .gtr 3 v8 (Value.int .i64 65536)) (fun v9 w => k1 (upd (upd (upd (upd (upd (upd (upd (upd (upd (env0 [v0]) 1 v1) 2 (Value.bool false)) 3 v3) 4 v4) 5 v5) 6 v5) 7 v7) 8 v8) 9 v9) w) w) w) w) (k1 (upd (upd (upd (upd (upd (upd (upd (upd (upd (env0 [v0]) 1 v1) 2 (Value.bool false)) 3 v3) 4 v4) 5 v5) 6 v5) 7 undef) 8 undef) 9 undef) w))) w) w) w) w

def H35 : Hints := [(1, false, false, [], .ch 0 [] (.ch 1 [] (.ch 2 [] (.ch 3 [] (.grp 3 false [(4, none), (5, none), (6, none)] (.ch 7 [] (.ch 8 [] (.done))))))))]

theorem F35_eq (K : Value → World → Prop) (v0 : Value) (w : World) : F35 Tryd.prog K v0 w = pt Tryd.prog H35 none Tryd.f35.ntmps (bodyOf Tryd.f35) (RetQ Tryd.prog Tryd.f35.results K) (env0 [v0]) [] w := by kernel_rfl

theorem F35_ok : codeOk cvTryd H35 (bodyOf Tryd.f35) = true := by kernel_rfl

theorem F35_has : Tryd.f35.body.isSome = true ∧ Nat.ble 1 Tryd.f35.ntmps = true := ⟨by kernel_rfl, by kernel_rfl⟩

theorem F35_calls {K : Value → World → Prop} {v0 : Value} {w : World} (h : F35 Tryd.prog K v0 w) : Calls Tryd.prog 35 #[v0] w (Returns K) :=
  calls_of_eq (cv := cvTryd) (H := H35) (fn := Tryd.f35) (args := [v0]) mixedTryd Tryd.func35 F35_has F35_ok (F35_eq K v0 w) h

/-- bailee/proof.steps -/
def F36 (P : Program) (K : Value → World → Prop) (v0 v1 : Value) (w : World) : Prop :=
  Do P (Instr.box 3 v0) (fun v2 w => Do P (Instr.box 3 v1) (fun v3 w => Do P (Instr.makeFunc (Fn.func 63) #[] #[v2, v3]) (fun v5 w => K v5 w) w) w) w

def H36 : Hints := []

theorem F36_eq (K : Value → World → Prop) (v0 v1 : Value) (w : World) : F36 Tryd.prog K v0 v1 w = pt Tryd.prog H36 none Tryd.f36.ntmps (bodyOf Tryd.f36) (RetQ Tryd.prog Tryd.f36.results K) (env0 [v0, v1]) [] w := by kernel_rfl

theorem F36_ok : codeOk cvTryd H36 (bodyOf Tryd.f36) = true := by kernel_rfl

theorem F36_has : Tryd.f36.body.isSome = true ∧ Nat.ble 2 Tryd.f36.ntmps = true := ⟨by kernel_rfl, by kernel_rfl⟩

theorem F36_calls {K : Value → World → Prop} {v0 v1 : Value} {w : World} (h : F36 Tryd.prog K v0 v1 w) : Calls Tryd.prog 36 #[v0, v1] w (Returns K) :=
  calls_of_eq (cv := cvTryd) (H := H36) (fn := Tryd.f36) (args := [v0, v1]) mixedTryd Tryd.func36 F36_has F36_ok (F36_eq K v0 v1 w) h

/-- slices.Clone[[]byte,byte] -/
def F37 (P : Program) (K : Value → World → Prop) (v0 : Value) (w : World) : Prop :=
  JoinC P (fun e1 w => Do P (Instr.buildSlice 22 0 #[]) (fun v5 w => CallN P (builtin .append #[22, 22] 22 #[false, false] #[v5, (e1 0)]) (fun v7 w => K v7 w) w) w) (fun j1 => Do P (eqS .eql 22 false true v0 (Value.slice none 0 0)) (fun v4 w => Cond v4 (K (Value.slice none 0 0) w) (@Eq (List Nat) [] [] ∧ j1 (upd (upd (upd (env0 [v0]) 2 (Value.slice none 0 0)) 3 v0) 4 v4) w)) w)

def H37 : Hints := []

theorem F37_eq (K : Value → World → Prop) (v0 : Value) (w : World) : F37 Tryd.prog K v0 w = pt Tryd.prog H37 none Tryd.f37.ntmps (bodyOf Tryd.f37) (RetQ Tryd.prog Tryd.f37.results K) (env0 [v0]) [] w := by kernel_rfl

theorem F37_ok : codeOk cvTryd H37 (bodyOf Tryd.f37) = true := by kernel_rfl

theorem F37_has : Tryd.f37.body.isSome = true ∧ Nat.ble 1 Tryd.f37.ntmps = true := ⟨by kernel_rfl, by kernel_rfl⟩

theorem F37_calls {K : Value → World → Prop} {v0 : Value} {w : World} (h : F37 Tryd.prog K v0 w) : Calls Tryd.prog 37 #[v0] w (Returns K) :=
  calls_of_eq (cv := cvTryd) (H := H37) (fn := Tryd.f37) (args := [v0]) mixedTryd Tryd.func37 F37_has F37_ok (F37_eq K v0 w) h

/-- bailee/proof.split -/
def F38 (P : Program) (K : Value → World → Prop) (v0 : Value) (w : World) : Prop :=
  JoinC P (fun e1 w => CallN P (callS (fnv 65) #[(e1 0), (Value.int .i64 64)]) (fun v8 w => CallN P (callS (fnv 64) #[v8]) (fun v9 w => K v9 w) w) w) (fun j1 => CallN P (builtin .len #[22] 3 #[false] #[v0]) (fun v4 w => Do P (eqS .eql 3 false true v4 (Value.int .i64 0)) (fun v5 w => Cond v5 (Do P (Instr.buildSlice 101 1 #[(0, (Value.slice none 0 0))]) (fun v6 w => K v6 w) w) (@Eq (List Nat) [] [] ∧ j1 (upd (upd (upd (upd (env0 [v0]) 2 (Value.slice none 0 0)) 3 v0) 4 v4) 5 v5) w)) w) w)

def H38 : Hints := []

theorem F38_eq (K : Value → World → Prop) (v0 : Value) (w : World) : F38 Tryd.prog K v0 w = pt Tryd.prog H38 none Tryd.f38.ntmps (bodyOf Tryd.f38) (RetQ Tryd.prog Tryd.f38.results K) (env0 [v0]) [] w := by kernel_rfl

theorem F38_ok : codeOk cvTryd H38 (bodyOf Tryd.f38) = true := by kernel_rfl

theorem F38_has : Tryd.f38.body.isSome = true ∧ Nat.ble 1 Tryd.f38.ntmps = true := ⟨by kernel_rfl, by kernel_rfl⟩

theorem F38_calls {K : Value → World → Prop} {v0 : Value} {w : World} (h : F38 Tryd.prog K v0 w) : Calls Tryd.prog 38 #[v0] w (Returns K) :=
  calls_of_eq (cv := cvTryd) (H := H38) (fn := Tryd.f38) (args := [v0]) mixedTryd Tryd.func38 F38_has F38_ok (F38_eq K v0 w) h

def F39_p1 (P : Program) (K : Value → World → Prop) (e2 : Env) (w : World) : Prop :=
  CallN P (nilS (e2 0)) (fun v21 w => Do P (Instr.fieldAt 85 v21 1) (fun v22 w => Do P (Instr.loadAt 83 v22) (fun v23 w => Do P (Instr.indexAt 83 v23 (e2 6)) (fun v25 w => Do P (Instr.loadAt 96 v25) (fun v26 w => Do P (Instr.alloc 96 true (Value.tuple #[])) (fun v7 w => Do P (Instr.storeAt 96 v7 v26) (fun _ w => CallN P (nilS (e2 0)) (fun v29 w => Do P (Instr.fieldAt 85 v29 1) (fun v30 w => Do P (Instr.loadAt 83 v30) (fun v31 w => Do P (binOp .add 3 (e2 6) (Value.int .i64 1)) (fun v34 w => CallN P (callS (fnv 67) #[v31, (e2 6), v34]) (fun v35 w => CallN P (nilS (e2 0)) (fun v36 w => Do P (Instr.fieldAt 85 v36 1) (fun v37 w => Do P (Instr.storeAt 83 v37 v35) (fun _ w => Do P (Instr.loadAt 96 v7) (fun v38 w => Do P (Instr.storeAt 96 (e2 4) v38) (fun _ w => RdNow P (cellS 96 (e2 4)) w (fun vr0 => K (Value.tuple #[vr0, (Value.bool true)]) w)) w) w) w) w) w) w) w) w) w) w) w) w) w) w) w) w) w

def F39_p2 (P : Program) (K : Value → World → Prop) (e1 : Env) (w : World) : Prop :=
  CallN P (nilS (e1 0)) (fun v12 w => Do P (Instr.fieldAt 85 v12 1) (fun v13 w => Do P (Instr.loadAt 83 v13) (fun v14 w => CallN P (callS (fnv 66) #[v14, (e1 1)]) (fun v16 w => JoinC P (F39_p1 P K) (fun j2 => Do P (binOp .lss 3 v16 (Value.int .i64 0)) (fun v18 w => Cond v18 (Do P (Instr.build 96 #[]) (fun v19 w => Do P (Instr.storeAt 96 (e1 4) v19) (fun _ w => RdNow P (cellS 96 (e1 4)) w (fun vr0_1 => K (Value.tuple #[vr0_1, (Value.bool false)]) w)) w) w) (@Eq (List Nat) [] [] ∧ j2 (upd (upd (upd (upd (upd (upd (upd (upd (upd e1 11 (e1 0)) 12 v12) 13 v13) 14 v14) 15 (e1 1)) 16 v16) 6 v16) 17 v16) 18 v18) w)) w)) w) w) w) w

/-- (*bailee/audit.Auditor).close -/
def F39 (P : Program) (K : Value → World → Prop) (v0 v1 : Value) (w : World) : Prop :=
  Do P (Instr.alloc 96 true (Value.tuple #[])) (fun v4 w => JoinC P (F39_p2 P K) (fun j1 => Do P (eqS .eql 25 false true v0 (Value.pointer none)) (fun v9 w => Cond v9 (Do P (Instr.build 96 #[]) (fun v10 w => Do P (Instr.storeAt 96 v4 v10) (fun _ w => RdNow P (cellS 96 v4) w (fun vr0_2 => K (Value.tuple #[vr0_2, (Value.bool false)]) w)) w) w) (@Eq (List Nat) [] [] ∧ j1 (upd (upd (upd (upd (env0 [v0, v1]) 4 v4) 5 (Value.bool false)) 8 v0) 9 v9) w)) w)) w

def H39 : Hints := []

theorem F39_eq (K : Value → World → Prop) (v0 v1 : Value) (w : World) : F39 Tryd.prog K v0 v1 w = pt Tryd.prog H39 none Tryd.f39.ntmps (bodyOf Tryd.f39) (RetQ Tryd.prog Tryd.f39.results K) (env0 [v0, v1]) [] w := by kernel_rfl

theorem F39_ok : codeOk cvTryd H39 (bodyOf Tryd.f39) = true := by kernel_rfl

theorem F39_has : Tryd.f39.body.isSome = true ∧ Nat.ble 2 Tryd.f39.ntmps = true := ⟨by kernel_rfl, by kernel_rfl⟩

theorem F39_calls {K : Value → World → Prop} {v0 v1 : Value} {w : World} (h : F39 Tryd.prog K v0 v1 w) : Calls Tryd.prog 39 #[v0, v1] w (Returns K) :=
  calls_of_eq (cv := cvTryd) (H := H39) (fn := Tryd.f39) (args := [v0, v1]) mixedTryd Tryd.func39 F39_has F39_ok (F39_eq K v0 v1 w) h

/-- (*bailee/audit.Auditor).Handle$1 -/
def F40 (P : Program) (K : Value → World → Prop) (v0 v1 v2 : Value) (w : World) : Prop :=
  Do P (Instr.box 96 v0) (fun v3 w => Do P (Instr.fieldAt 96 v3 0) (fun v5 w => Do P (Instr.loadAt 94 v5) (fun v6 w => Do P (Instr.loadAt 3 v1) (fun v7 w => Do P (Instr.fieldAt 33 v2 1) (fun v8 w => Do P (Instr.loadAt 28 v8) (fun v9 w => Do P (Instr.fieldAt 33 v2 3) (fun v10 w => Do P (Instr.loadAt 23 v10) (fun v11 w => Do P (Instr.build 94 #[(0, v7), (1, v9), (2, v11)]) (fun v12 w => Do P (eqS .eql 94 false false v6 v12) (fun v13 w => K v13 w) w) w) w) w) w) w) w) w) w) w

def H40 : Hints := []

theorem F40_eq (K : Value → World → Prop) (v0 v1 v2 : Value) (w : World) : F40 Tryd.prog K v0 v1 v2 w = pt Tryd.prog H40 none Tryd.f40.ntmps (bodyOf Tryd.f40) (RetQ Tryd.prog Tryd.f40.results K) (env0 [v0, v1, v2]) [] w := by kernel_rfl

theorem F40_ok : codeOk cvTryd H40 (bodyOf Tryd.f40) = true := by kernel_rfl

theorem F40_has : Tryd.f40.body.isSome = true ∧ Nat.ble 3 Tryd.f40.ntmps = true := ⟨by kernel_rfl, by kernel_rfl⟩

theorem F40_calls {K : Value → World → Prop} {v0 v1 v2 : Value} {w : World} (h : F40 Tryd.prog K v0 v1 v2 w) : Calls Tryd.prog 40 #[v0, v1, v2] w (Returns K) :=
  calls_of_eq (cv := cvTryd) (H := H40) (fn := Tryd.f40) (args := [v0, v1, v2]) mixedTryd Tryd.func40 F40_has F40_ok (F40_eq K v0 v1 v2 w) h

def F41_p1 (P : Program) (S1 : Nat → World → Prop) (K : Value → World → Prop) (j2 : Env → World → Prop) (e3 : Env) (w : World) : Prop :=
  RdSN P (S1 0) (pickS (e3 34) (Value.bool true) (e3 37)) (fun v38 => Join (fun e4 w => RdNowN P (pickS (e4 39) (Value.bool true) (e4 49)) w (fun v50 => Cond v50 (K (Value.int .i64 21) w) (@Eq (List Nat) [] [] ∧ j2 (upd e4 50 v50) w))) (fun k2 => Guard v38 false (RdSN P (S1 0) (builtin .len #[101] 3 #[false] #[(e3 11)]) (fun v42 => RdS P (S1 0) (binOp .sub 3 v42 (Value.int .i64 1)) (fun v43 => RdS P (S1 0) (Instr.indexAt 101 (e3 11) v43) (fun v44 => RdS P (S1 0) (Instr.loadAt 22 v44) (fun v45 => RdS P (S1 0) (Instr.loadAt 28 (e3 5)) (fun v48 => Do P (Instr.buildSlice 101 1 #[(0, v45)]) (fun v46 w => (S1 0) w ∧ (CallN P (callS (fnv 31) #[v46]) (fun v47 w => (S1 0) w ∧ (RdNow P (eqS .neq 28 false false v47 v48) w (fun v49 => k2 (upd (upd (upd (upd (upd (upd (upd (upd (upd (upd (upd (upd e3 38 v38) 39 v38) 40 (e3 11)) 41 (e3 11)) 42 v42) 43 v43) 44 v44) 45 v45) 48 v48) 46 v46) 47 v47) 49 v49) w))) w)) w)))))) (k2 (upd (upd (upd (upd (upd (upd (upd (upd (upd (upd (upd (upd e3 38 v38) 39 v38) 40 undef) 41 undef) 42 undef) 43 undef) 44 undef) 45 undef) 48 undef) 46 undef) 47 undef) 49 undef) w)))

def F41_p2 (P : Program) (K : Value → World → Prop) (e1 : Env) (w : World) : Prop :=
  CallN P (callS (fnv 44) #[(e1 1), (e1 2), (e1 3), (e1 4)]) (fun v29 w => Do P (Instr.extract v29 0) (fun v30 w => Do P (Instr.extract v29 1) (fun v31 w => JoinC P (fun e2 w => K (Value.int .i64 0) w) (fun j2 => Drew (fun w => Draw (fun S1 w => RdS P (S1 0) (Op.unary .not v31) (fun v33 => Join (F41_p1 P S1 K j2) (fun k1 => Guard v33 false (RdSN P (S1 0) (builtin .len #[22] 3 #[false] #[(e1 3)]) (fun v36 => RdS P (S1 0) (binOp .gtr 3 v36 (Value.int .i64 64)) (fun v37 => k1 (upd (upd (upd (upd (upd (upd (upd (upd (upd (upd (upd (upd (upd (upd (upd (upd e1 25 (e1 1)) 26 (e1 2)) 27 (e1 3)) 28 (e1 4)) 29 v29) 24 v29) 30 v30) 31 v31) 11 v30) 12 v31) 32 v31) 33 v33) 34 v33) 35 (e1 3)) 36 v36) 37 v37) w))) (k1 (upd (upd (upd (upd (upd (upd (upd (upd (upd (upd (upd (upd (upd (upd (upd (upd e1 25 (e1 1)) 26 (e1 2)) 27 (e1 3)) 28 (e1 4)) 29 v29) 24 v29) 30 v30) 31 v31) 11 v30) 12 v31) 32 v31) 33 v33) 34 v33) 35 undef) 36 undef) 37 undef) w)))) w) w)) w) w) w

/-- bailee/proof.Check -/
def F41 (P : Program) (K : Value → World → Prop) (v0 v1 v2 v3 v4 : Value) (w : World) : Prop :=
  Do P (Instr.box 28 v0) (fun v5 w => JoinC P (F41_p2 P K) (fun j1 => Do P (binOp .lss 3 v1 (Value.int .i64 1)) (fun v14 w => Join (fun e5 w => CallN P (pickS (e5 15) (Value.bool true) (e5 17)) (fun v18 w => Join (fun e6 w => CallN P (pickS (e6 19) (Value.bool true) (e6 22)) (fun v23 w => Cond v23 (K (Value.int .i64 14) w) (@Eq (List Nat) [] [] ∧ j1 (upd e6 23 v23) w)) w) (fun k4 => Guard v18 false (Do P (binOp .geq 3 (e5 2) (e5 1)) (fun v22 w => k4 (upd (upd (upd (upd (upd e5 18 v18) 19 v18) 20 (e5 2)) 21 (e5 1)) 22 v22) w) w) (k4 (upd (upd (upd (upd (upd e5 18 v18) 19 v18) 20 undef) 21 undef) 22 undef) w))) w) (fun k3 => Guard v14 false (Do P (binOp .lss 3 v2 (Value.int .i64 0)) (fun v17 w => k3 (upd (upd (upd (upd (upd (upd (upd (env0 [v0, v1, v2, v3, v4]) 5 v5) 10 (Value.int .i64 0)) 13 v1) 14 v14) 15 v14) 16 v2) 17 v17) w) w) (k3 (upd (upd (upd (upd (upd (upd (upd (env0 [v0, v1, v2, v3, v4]) 5 v5) 10 (Value.int .i64 0)) 13 v1) 14 v14) 15 v14) 16 undef) 17 undef) w))) w)) w

def H41 : Hints := [(1, false, false, [], .ch 0 [] (.ch 1 [] (.ch 2 [] (.grp 2 false [(3, none), (4, none)] (.ch 5 [] (.ch 6 [] (.grp 6 false [(7, none), (8, none), (9, none)] (.ch 10 [] (.done))))))))), (4, true, false, [0, 0, 0, 0, 0, 0, 0, 0, 0, 0, 0, 0, 0, 0, 0, 0, 0, 0, 0], .rd 0 true 0 (.rd 1 false 0 (.rd 2 true 0 (.grp 2 false [(3, some true), (4, some false), (5, some false)] (.rd 6 false 0 (.rd 7 true 0 (.grp 7 false [(8, some true), (9, some true), (10, some false), (11, some false), (12, some false), (13, some false), (16, some false), (14, none), (15, none), (17, some true)] (.rd 18 true 0 (.done)))))))))]

theorem F41_eq (K : Value → World → Prop) (v0 v1 v2 v3 v4 : Value) (w : World) : F41 Tryd.prog K v0 v1 v2 v3 v4 w = pt Tryd.prog H41 none Tryd.f41.ntmps (bodyOf Tryd.f41) (RetQ Tryd.prog Tryd.f41.results K) (env0 [v0, v1, v2, v3, v4]) [] w := by kernel_rfl

theorem F41_ok : codeOk cvTryd H41 (bodyOf Tryd.f41) = true := by kernel_rfl

theorem F41_has : Tryd.f41.body.isSome = true ∧ Nat.ble 5 Tryd.f41.ntmps = true := ⟨by kernel_rfl, by kernel_rfl⟩

theorem F41_calls {K : Value → World → Prop} {v0 v1 v2 v3 v4 : Value} {w : World} (h : F41 Tryd.prog K v0 v1 v2 v3 v4 w) : Calls Tryd.prog 41 #[v0, v1, v2, v3, v4] w (Returns K) :=
  calls_of_eq (cv := cvTryd) (H := H41) (fn := Tryd.f41) (args := [v0, v1, v2, v3, v4]) mixedTryd Tryd.func41 F41_has F41_ok (F41_eq K v0 v1 v2 v3 v4 w) h

/-- (*bailee/audit.Auditor).Handle$2 -/
def F42 (P : Program) (K : Value → World → Prop) (v0 v1 v2 : Value) (w : World) : Prop :=
  Do P (Instr.box 96 v0) (fun v3 w => Do P (Instr.fieldAt 96 v3 0) (fun v5 w => Do P (Instr.fieldAt 94 v5 0) (fun v6 w => Do P (Instr.loadAt 3 v6) (fun v7 w => Do P (Instr.loadAt 3 v1) (fun v8 w => Do P (eqS .eql 3 false false v7 v8) (fun v9 w => Join (fun e1 w => CallN P (pickS (e1 10) (e1 16) (Value.bool false)) (fun v17 w => K v17 w) w) (fun k1 => Guard v9 true (Do P (Instr.fieldAt 96 v3 0) (fun v11 w => Do P (Instr.fieldAt 94 v11 1) (fun v12 w => Do P (Instr.loadAt 28 v12) (fun v13 w => Do P (Instr.fieldAt 33 v2 1) (fun v14 w => Do P (Instr.loadAt 28 v14) (fun v15 w => Do P (eqS .eql 28 false false v13 v15) (fun v16 w => k1 (upd (upd (upd (upd (upd (upd (upd (upd (upd (upd (upd (upd (upd (upd (env0 [v0, v1, v2]) 3 v3) 4 (Value.bool false)) 5 v5) 6 v6) 7 v7) 8 v8) 9 v9) 10 v9) 11 v11) 12 v12) 13 v13) 14 v14) 15 v15) 16 v16) w) w) w) w) w) w) w) (k1 (upd (upd (upd (upd (upd (upd (upd (upd (upd (upd (upd (upd (upd (upd (env0 [v0, v1, v2]) 3 v3) 4 (Value.bool false)) 5 v5) 6 v6) 7 v7) 8 v8) 9 v9) 10 v9) 11 undef) 12 undef) 13 undef) 14 undef) 15 undef) 16 undef) w))) w) w) w) w) w) w

def H42 : Hints := [(1, false, false, [], .ch 0 [] (.ch 1 [] (.ch 2 [] (.ch 3 [] (.ch 4 [] (.ch 5 [] (.grp 5 true [(6, none), (7, none), (8, none), (9, none), (10, none), (11, none)] (.ch 12 [] (.ch 13 [] (.done))))))))))]

theorem F42_eq (K : Value → World → Prop) (v0 v1 v2 : Value) (w : World) : F42 Tryd.prog K v0 v1 v2 w = pt Tryd.prog H42 none Tryd.f42.ntmps (bodyOf Tryd.f42) (RetQ Tryd.prog Tryd.f42.results K) (env0 [v0, v1, v2]) [] w := by kernel_rfl

theorem F42_ok : codeOk cvTryd H42 (bodyOf Tryd.f42) = true := by kernel_rfl

theorem F42_has : Tryd.f42.body.isSome = true ∧ Nat.ble 3 Tryd.f42.ntmps = true := ⟨by kernel_rfl, by kernel_rfl⟩

theorem F42_calls {K : Value → World → Prop} {v0 v1 v2 : Value} {w : World} (h : F42 Tryd.prog K v0 v1 v2 w) : Calls Tryd.prog 42 #[v0, v1, v2] w (Returns K) :=
  calls_of_eq (cv := cvTryd) (H := H42) (fn := Tryd.f42) (args := [v0, v1, v2]) mixedTryd Tryd.func42 F42_has F42_ok (F42_eq K v0 v1 v2 w) h

/-- bytes.Equal -/
def F43 (P : Program) (K : Value → World → Prop) (v0 v1 : Value) (w : World) : Prop :=
  Do P (convert 22 9 v0) (fun v6 w => Do P (convert 22 9 v1) (fun v8 w => Do P (eqS .eql 9 false false v6 v8) (fun v9 w => K v9 w) w) w) w

def H43 : Hints := []

theorem F43_eq (K : Value → World → Prop) (v0 v1 : Value) (w : World) : F43 Tryd.prog K v0 v1 w = pt Tryd.prog H43 none Tryd.f43.ntmps (bodyOf Tryd.f43) (RetQ Tryd.prog Tryd.f43.results K) (env0 [v0, v1]) [] w := by kernel_rfl

theorem F43_ok : codeOk cvTryd H43 (bodyOf Tryd.f43) = true := by kernel_rfl

theorem F43_has : Tryd.f43.body.isSome = true ∧ Nat.ble 2 Tryd.f43.ntmps = true := ⟨by kernel_rfl, by kernel_rfl⟩

theorem F43_calls {K : Value → World → Prop} {v0 v1 : Value} {w : World} (h : F43 Tryd.prog K v0 v1 w) : Calls Tryd.prog 43 #[v0, v1] w (Returns K) :=
  calls_of_eq (cv := cvTryd) (H := H43) (fn := Tryd.f43) (args := [v0, v1]) mixedTryd Tryd.func43 F43_has F43_ok (F43_eq K v0 v1 w) h

def F44_p1 (P : Program) (K : Value → World → Prop) (e1 : Env) (ds1 : List Nat) (w : World) : Prop :=
  Drew (fun w => Draw (fun S1 w => RdS P (S1 0) (Instr.loadAt 101 (e1 10)) (fun v55 => RdS P (S1 0) (Instr.loadAt 28 (e1 11)) (fun v57 => RdS P (S1 1) (Instr.loadAt 31 (e1 7)) (fun v61 => RdSN P (S1 1) (builtin .len #[31] 3 #[false] #[v61]) (fun v62 => RdS P (S1 1) (eqS .eql 3 false true v62 (Value.int .i64 0)) (fun v63 => CallN P (callS (fnv 32) #[(e1 0), v57]) (fun v58 w => S1 0 w ∧ (S1 1 w ∧ (Do P (Instr.buildSlice 101 1 #[(0, v58)]) (fun v59 w => S1 0 w ∧ (S1 1 w ∧ (CallN P (builtin .append #[101, 101] 101 #[false, false] #[v55, v59]) (fun v60 w => S1 1 w ∧ (Do P (Instr.storeAt 101 (e1 8) v60) (fun _ w => S1 1 w ∧ (Do P (Instr.storeAt 4 (e1 9) v63) (fun _ w => RetM P #[.cell 8 101, .cell 9 4] K (upd (upd (upd (upd (upd (upd (upd (upd (upd e1 55 v55) 56 (e1 0)) 57 v57) 61 v61) 62 v62) 63 v63) 58 v58) 59 v59) 60 v60) ds1 w) w)) w)) w))) w))) w)))))) w) w

/-- bailee/proof.rows -/
def F44 (P : Program) (K : Value → World → Prop) (v0 v1 v2 v3 : Value) (w : World) : Prop :=
  Do P (Instr.box 31 v3) (fun v7 w => Do P (Instr.alloc 101 true (Value.tuple #[])) (fun v8 w => Do P (Instr.alloc 4 true (Value.tuple #[])) (fun v9 w => CallN P (callS (fnv 56) #[v2]) (fun v16 w => Do P (Instr.buildSlice 101 1 #[(0, v16)]) (fun v17 w => Do P (Instr.alloc 101 true (Value.tuple #[])) (fun v10 w => Do P (Instr.storeAt 101 v10 v17) (fun _ w => Do P (Instr.loadAt 101 v10) (fun v18 w => Do P (Instr.indexAt 101 v18 (Value.int .i64 0)) (fun v19 w => Do P (Instr.loadAt 22 v19) (fun v20 w => Do P (Instr.buildSlice 101 1 #[(0, v20)]) (fun v21 w => CallN P (callS (fnv 31) #[v21]) (fun v22 w => Do P (Instr.alloc 28 true (Value.tuple #[])) (fun v11 w => Do P (Instr.storeAt 28 v11 v22) (fun _ w => JoinD (F44_p1 P K) (fun j1 => CallN P (callS (fnv 36) #[v0, v1]) (fun v25 w => RangeF P none 64 v25 #[26, 27] (rfA Tryd.f44 0) (rfB Tryd.f44 0) (inBlk 0 (thenQ j1 (RetQ P #[.cell 8 101, .cell 9 4] K))) (upd (upd (upd (upd (upd (upd (upd (upd (upd (upd (upd (upd (upd (upd (upd (upd (env0 [v0, v1, v2, v3]) 7 v7) 8 v8) 9 v9) 15 v2) 16 v16) 17 v17) 10 v10) 18 v18) 19 v19) 20 v20) 21 v21) 22 v22) 11 v11) 23 v0) 24 v1) 25 v25) [] w) w)) w) w) w) w) w) w) w) w) w) w) w) w) w) w

def H44 : Hints := [(9, true, false, [0, 0, 0, 0, 0, 0], .rd 0 true 0 (.rd 1 false 0 (.rd 2 false 0 (.rd 3 true 0 (.ch 4 [] (.rd 5 true 0 (.done))))))), (11, true, false, [0, 0, 0, 0, 0, 0], .rd 0 false 0 (.rd 1 false 0 (.rd 2 true 0 (.rd 3 true 0 (.ch 4 [] (.rd 5 true 0 (.done))))))), (12, true, true, [0, 0, 0, 0, 0, 0, 0, 1, 1, 0, 0, 0], .rd 0 false 0 (.rd 1 true 0 (.rd 4 true 0 (.rd 7 false 1 (.rd 8 false 1 (.alt 2 [0, 1] (.alt 3 [1] (.ch 5 [0, 1] (.ch 6 [1] (.ch 9 [1] (.ch 10 [1] (.ch 11 [] (.done)))))) (.ch 5 [0, 1] (.ch 3 [1] (.ch 6 [1] (.ch 9 [1] (.ch 10 [1] (.ch 11 [] (.done)))))))) (.ch 5 [0, 1] (.ch 2 [0, 1] (.ch 3 [1] (.ch 6 [1] (.ch 9 [1] (.ch 10 [1] (.ch 11 [] (.done)))))))))))))), (13, true, false, [0, 0, 0, 0, 0, 0, 1, 1, 1, 0, 0], .rd 0 false 0 (.rd 1 true 0 (.rd 2 false 0 (.rd 6 false 1 (.rd 7 false 1 (.rd 8 false 1 (.ch 3 [0, 1] (.ch 4 [0, 1] (.ch 5 [1] (.ch 9 [1] (.ch 10 [] (.done))))))))))))]

theorem F44_eq (K : Value → World → Prop) (v0 v1 v2 v3 : Value) (w : World) : F44 Tryd.prog K v0 v1 v2 v3 w = pt Tryd.prog H44 none Tryd.f44.ntmps (bodyOf Tryd.f44) (RetQ Tryd.prog Tryd.f44.results K) (env0 [v0, v1, v2, v3]) [] w := by kernel_rfl

theorem F44_ok : codeOk cvTryd H44 (bodyOf Tryd.f44) = true := by kernel_rfl

theorem F44_has : Tryd.f44.body.isSome = true ∧ Nat.ble 4 Tryd.f44.ntmps = true := ⟨by kernel_rfl, by kernel_rfl⟩

theorem F44_calls {K : Value → World → Prop} {v0 v1 v2 v3 : Value} {w : World} (h : F44 Tryd.prog K v0 v1 v2 v3 w) : Calls Tryd.prog 44 #[v0, v1, v2, v3] w (Returns K) :=
  calls_of_eq (cv := cvTryd) (H := H44) (fn := Tryd.f44) (args := [v0, v1, v2, v3]) mixedTryd Tryd.func44 F44_has F44_ok (F44_eq K v0 v1 v2 v3 w) h

def R44_0A (P : Program) (l : Nat) (Q : QQ) (e : Env) (ds : List Nat) (w : World) : Prop :=
  Q .normal (upd (upd e 12 (e 26)) 13 (e 27)) ds w

theorem R44_0A_eq (l : Nat) (Q : QQ) (e : Env) (ds : List Nat) (w : World) : R44_0A Tryd.prog l Q e ds w = pt Tryd.prog H44 (some l) 64 (rfA Tryd.f44 0) Q e ds w := by kernel_rfl

theorem R44_0A_ok : codeOk cvTryd H44 (rfA Tryd.f44 0) = true := by kernel_rfl

def F44_p2 (P : Program) (Q : QQ) (ds : List Nat) (e4 : Env) (w : World) : Prop :=
  Join (fun e5 w => Q .normal e5 ds w) (fun k1 => Drew (fun w => Draw (fun S3 w => RdS P (S3 0) (Instr.loadAt 101 (e4 10)) (fun v46 => RdS P (S3 1) (Instr.loadAt 31 (e4 7)) (fun v53 => RdS P (S3 1) (Instr.sliceAt 31 v53 (some (Value.int .i64 1)) none none) (fun v54 => (Do P (Instr.buildSlice 101 1 #[(0, (e4 14))]) (fun v48 w => S3 0 w ∧ (S3 1 w ∧ ((CallN P (builtin .append #[101, 101] 101 #[false, false] #[v46, v48]) (fun v49 w => S3 1 w ∧ (Do P (Instr.buildSlice 101 1 #[(0, (e4 14))]) (fun v51 w => S3 0 w ∧ (S3 1 w ∧ (CallN P (callS (fnv 31) #[v51]) (fun v52 w => S3 1 w ∧ (Do P (Instr.storeAt 101 (e4 10) v49) (fun _ w => S3 1 w ∧ (Do P (Instr.storeAt 28 (e4 11) v52) (fun _ w => S3 1 w ∧ (Do P (Instr.storeAt 31 (e4 7) v54) (fun _ w => k1 (upd (upd (upd (upd (upd (upd (upd (upd (upd e4 46 v46) 47 (e4 14)) 50 (e4 14)) 53 v53) 54 v54) 48 v48) 49 v49) 51 v51) 52 v52) w) w)) w)) w)) w))) w)) w) ∧ (Do P (Instr.buildSlice 101 1 #[(0, (e4 14))]) (fun v51_1 w => S3 0 w ∧ (S3 1 w ∧ (CallN P (builtin .append #[101, 101] 101 #[false, false] #[v46, v48]) (fun v49_1 w => S3 1 w ∧ (CallN P (callS (fnv 31) #[v51_1]) (fun v52_1 w => S3 1 w ∧ (Do P (Instr.storeAt 101 (e4 10) v49_1) (fun _ w => S3 1 w ∧ (Do P (Instr.storeAt 28 (e4 11) v52_1) (fun _ w => S3 1 w ∧ (Do P (Instr.storeAt 31 (e4 7) v54) (fun _ w => k1 (upd (upd (upd (upd (upd (upd (upd (upd (upd e4 46 v46) 47 (e4 14)) 50 (e4 14)) 53 v53) 54 v54) 48 v48) 51 v51_1) 49 v49_1) 52 v52_1) w) w)) w)) w)) w)) w))) w)))) w) ∧ (Do P (Instr.buildSlice 101 1 #[(0, (e4 14))]) (fun v51_2 w => S3 0 w ∧ (S3 1 w ∧ (Do P (Instr.buildSlice 101 1 #[(0, (e4 14))]) (fun v48_1 w => S3 0 w ∧ (S3 1 w ∧ (CallN P (builtin .append #[101, 101] 101 #[false, false] #[v46, v48_1]) (fun v49_2 w => S3 1 w ∧ (CallN P (callS (fnv 31) #[v51_2]) (fun v52_2 w => S3 1 w ∧ (Do P (Instr.storeAt 101 (e4 10) v49_2) (fun _ w => S3 1 w ∧ (Do P (Instr.storeAt 28 (e4 11) v52_2) (fun _ w => S3 1 w ∧ (Do P (Instr.storeAt 31 (e4 7) v54) (fun _ w => k1 (upd (upd (upd (upd (upd (upd (upd (upd (upd e4 46 v46) 47 (e4 14)) 50 (e4 14)) 53 v53) 54 v54) 51 v51_2) 48 v48_1) 49 v49_2) 52 v52_2) w) w)) w)) w)) w)) w))) w))) w))))) w) w)

def F44_p3 (P : Program) (Q : QQ) (ds : List Nat) (e3 : Env) (w : World) : Prop :=
  Drew (fun w => Draw (fun S2 w => RdNow P (Instr.loadAt 28 (e3 11)) w (fun v33 => RdS P (S2 0) (Instr.loadAt 31 (e3 7)) (fun v34 => RdS P (S2 0) (Instr.indexAt 31 v34 (Value.int .i64 0)) (fun v35 => RdNow P (Instr.loadAt 28 v35) w (fun v36 => CallN P (callS (fnv 58) #[v33, v36]) (fun v37 w => JoinC P (F44_p2 P Q ds) (fun j4 => Do P (binOp .and 3 (e3 12) (Value.int .i64 1)) (fun v39 w => Do P (eqS .eql 3 false true v39 (Value.int .i64 1)) (fun v40 w => Cond v40 (Drew (fun w => Draw (fun S4 w => RdS P (S4 0) (Instr.loadAt 31 (e3 7)) (fun v41 => RdS P (S4 0) (Instr.indexAt 31 v41 (Value.int .i64 0)) (fun v42 => RdNow P (Instr.loadAt 28 v42) w (fun v43 => RdNow P (Instr.loadAt 28 (e3 11)) w (fun v44 => CallN P (callS (fnv 58) #[v43, v44]) (fun v45 w => @Eq (List Nat) ds ds ∧ j4 (upd (upd (upd (upd (upd (upd (upd (upd (upd (upd (upd (upd (upd (upd (upd e3 33 v33) 34 v34) 35 v35) 36 v36) 37 v37) 14 v37) 38 (e3 12)) 39 v39) 40 v40) 41 v41) 42 v42) 43 v43) 44 v44) 45 v45) 14 v45) w) w))))) w) w) (@Eq (List Nat) ds ds ∧ j4 (upd (upd (upd (upd (upd (upd (upd (upd (upd e3 33 v33) 34 v34) 35 v35) 36 v36) 37 v37) 14 v37) 38 (e3 12)) 39 v39) 40 v40) w)) w) w)) w))))) w) w

def R44_0B (P : Program) (l : Nat) (Q : QQ) (e : Env) (ds : List Nat) (w : World) : Prop :=
  JoinC P (fun e2 w => JoinC P (F44_p3 P Q ds) (fun j3 => Do P (Instr.loadAt 31 (e2 7)) (fun v30 w => CallN P (builtin .len #[31] 3 #[false] #[v30]) (fun v31 w => Do P (eqS .eql 3 false true v31 (Value.int .i64 0)) (fun v32 w => Cond v32 (Do P (Instr.storeAt 101 (e2 8) (Value.slice none 0 0)) (fun _ w => Do P (Instr.storeAt 4 (e2 9) (Value.bool false)) (fun _ w => Q .ret (upd (upd (upd e2 30 v30) 31 v31) 32 v32) ds w) w) w) (@Eq (List Nat) ds ds ∧ j3 (upd (upd (upd e2 30 v30) 31 v31) 32 v32) w)) w) w) w)) (fun j2 => Do P (Op.unary .not (e 13)) (fun v29 w => Cond v29 (Q .normal (upd (upd e 28 (e 13)) 29 v29) ds w) (@Eq (List Nat) ds ds ∧ j2 (upd (upd e 28 (e 13)) 29 v29) w)) w)

theorem R44_0B_eq (l : Nat) (Q : QQ) (e : Env) (ds : List Nat) (w : World) : R44_0B Tryd.prog l Q e ds w = pt Tryd.prog H44 (some l) 64 (rfB Tryd.f44 0) Q e ds w := by kernel_rfl

theorem R44_0B_ok : codeOk cvTryd H44 (rfB Tryd.f44 0) = true := by kernel_rfl

end Go.Px
end
section
set_option linter.unusedVariables false
set_option linter.unusedSimpArgs false
set_option linter.unusedVariables false
set_option maxRecDepth 20000
namespace Go.Px
open Go Go.Proofs
/-- bailee/baileeref02.numbers -/
def F45 (P : Program) (K : Value → World → Prop)  (w : World) : Prop :=
  Do P (Instr.alloc 112 true (Value.tuple #[])) (fun v0 w => Do P (Instr.build 112 #[(0, (Value.int .u32 1116352408)), (1, (Value.int .u32 1899447441)), (2, (Value.int .u32 3049323471)), (3, (Value.int .u32 3921009573)), (4, (Value.int .u32 961987163)), (5, (Value.int .u32 1508970993)), (6, (Value.int .u32 2453635748)), (7, (Value.int .u32 2870763221)), (8, (Value.int .u32 3624381080)), (9, (Value.int .u32 310598401)), (10, (Value.int .u32 607225278)), (11, (Value.int .u32 1426881987)), (12, (Value.int .u32 1925078388)), (13, (Value.int .u32 2162078206)), (14, (Value.int .u32 2614888103)), (15, (Value.int .u32 3248222580)), (16, (Value.int .u32 3835390401)), (17, (Value.int .u32 4022224774)), (18, (Value.int .u32 264347078)), (19, (Value.int .u32 604807628)), (20, (Value.int .u32 770255983)), (21, (Value.int .u32 1249150122)), (22, (Value.int .u32 1555081692)), (23, (Value.int .u32 1996064986)), (24, (Value.int .u32 2554220882)), (25, (Value.int .u32 2821834349)), (26, (Value.int .u32 2952996808)), (27, (Value.int .u32 3210313671)), (28, (Value.int .u32 3336571891)), (29, (Value.int .u32 3584528711)), (30, (Value.int .u32 113926993)), (31, (Value.int .u32 338241895)), (32, (Value.int .u32 666307205)), (33, (Value.int .u32 773529912)), (34, (Value.int .u32 1294757372)), (35, (Value.int .u32 1396182291)), (36, (Value.int .u32 1695183700)), (37, (Value.int .u32 1986661051)), (38, (Value.int .u32 2177026350)), (39, (Value.int .u32 2456956037)), (40, (Value.int .u32 2730485921)), (41, (Value.int .u32 2820302411)), (42, (Value.int .u32 3259730800)), (43, (Value.int .u32 3345764771)), (44, (Value.int .u32 3516065817)), (45, (Value.int .u32 3600352804)), (46, (Value.int .u32 4094571909)), (47, (Value.int .u32 275423344)), (48, (Value.int .u32 430227734)), (49, (Value.int .u32 506948616)), (50, (Value.int .u32 659060556)), (51, (Value.int .u32 883997877)), (52, (Value.int .u32 958139571)), (53, (Value.int .u32 1322822218)), (54, (Value.int .u32 1537002063)), (55, (Value.int .u32 1747873779)), (56, (Value.int .u32 1955562222)), (57, (Value.int .u32 2024104815)), (58, (Value.int .u32 2227730452)), (59, (Value.int .u32 2361852424)), (60, (Value.int .u32 2428436474)), (61, (Value.int .u32 2756734187)), (62, (Value.int .u32 3204031479)), (63, (Value.int .u32 3329325298))]) (fun v1 w => Do P (Instr.storeAt 112 v0 v1) (fun _ w => RdNow P (cellS 112 v0) w (fun vr0 => K vr0 w)) w) w) w

def H45 : Hints := []

theorem F45_eq (K : Value → World → Prop)  (w : World) : F45 Tryd.prog K  w = pt Tryd.prog H45 none Tryd.f45.ntmps (bodyOf Tryd.f45) (RetQ Tryd.prog Tryd.f45.results K) (env0 []) [] w := by kernel_rfl

theorem F45_ok : codeOk cvTryd H45 (bodyOf Tryd.f45) = true := by kernel_rfl

theorem F45_has : Tryd.f45.body.isSome = true ∧ Nat.ble 0 Tryd.f45.ntmps = true := ⟨by kernel_rfl, by kernel_rfl⟩

theorem F45_calls {K : Value → World → Prop}  {w : World} (h : F45 Tryd.prog K  w) : Calls Tryd.prog 45 #[] w (Returns K) :=
  calls_of_eq (cv := cvTryd) (H := H45) (fn := Tryd.f45) (args := []) mixedTryd Tryd.func45 F45_has F45_ok (F45_eq K  w) h

def F46_p1 (P : Program) (j3 : Env → World → Prop) (e5 : Env) (w : World) : Prop :=
  Do P (binOp .sub 3 (e5 4) (Value.int .i64 15)) (fun v45 w => Do P (Instr.indexAt 112 (e5 3) v45) (fun v46 w => Do P (Instr.loadAt 110 v46) (fun v47 w => Do P (binOp .sub 3 (e5 4) (Value.int .i64 2)) (fun v49 w => Do P (Instr.indexAt 112 (e5 3) v49) (fun v50 w => Do P (Instr.loadAt 110 v50) (fun v51 w => Drew (fun w => Draw (fun S1 w => RdS P (S1 0) (binOp .sub 3 (e5 4) (Value.int .i64 16)) (fun v54 => RdS P (S1 0) (Instr.indexAt 112 (e5 3) v54) (fun v55 => RdS P (S1 0) (Instr.loadAt 110 v55) (fun v56 => RdS P (S1 0) (binOp .quo 110 v47 (Value.int .u32 8)) (fun v63 => RdS P (S1 0) (binOp .sub 3 (e5 4) (Value.int .i64 7)) (fun v67 => RdS P (S1 0) (Instr.indexAt 112 (e5 3) v67) (fun v68 => RdS P (S1 0) (Instr.loadAt 110 v68) (fun v69 => RdS P (S1 0) (binOp .quo 110 v51 (Value.int .u32 1024)) (fun v77 => CallN P (callS (fnv 47) #[v47, (Value.int .i64 7)]) (fun v58 w => S1 0 w ∧ (CallN P (callS (fnv 47) #[v47, (Value.int .i64 18)]) (fun v60 w => S1 0 w ∧ (RdS P (S1 0) (binOp .xor 110 v58 v60) (fun v61 => RdS P (S1 0) (binOp .xor 110 v61 v63) (fun v64 => RdS P (S1 0) (binOp .add 110 v56 v64) (fun v65 => RdS P (S1 0) (binOp .add 110 v65 v69) (fun v70 => CallN P (callS (fnv 47) #[v51, (Value.int .i64 17)]) (fun v72 w => S1 0 w ∧ (CallN P (callS (fnv 47) #[v51, (Value.int .i64 19)]) (fun v74 w => S1 0 w ∧ (RdNow P (binOp .xor 110 v72 v74) w (fun v75 => RdNow P (binOp .xor 110 v75 v77) w (fun v78 => RdNow P (binOp .add 110 v70 v78) w (fun v79 => RdNow P (Instr.indexAt 112 (e5 3) (e5 4)) w (fun v80 => Do P (Instr.storeAt 110 v80 v79) (fun _ w => @Eq (List Nat) [] [] ∧ j3 (upd (upd (upd (upd (upd (upd (upd (upd (upd (upd (upd (upd (upd (upd (upd (upd (upd (upd (upd (upd (upd (upd (upd (upd (upd (upd (upd (upd (upd (upd (upd (upd (upd (upd (upd (upd (upd (upd (upd e5 44 (e5 4)) 45 v45) 46 v46) 47 v47) 5 v47) 48 (e5 4)) 49 v49) 50 v50) 51 v51) 6 v51) 52 (e5 4)) 53 (e5 4)) 54 v54) 55 v55) 56 v56) 57 v47) 59 v47) 62 v47) 63 v63) 66 (e5 4)) 67 v67) 68 v68) 69 v69) 71 v51) 73 v51) 76 v51) 77 v77) 58 v58) 60 v60) 61 v61) 64 v64) 65 v65) 70 v70) 72 v72) 74 v74) 75 v75) 78 v78) 79 v79) 80 v80) w) w)))))) w)) w)))))) w)) w))))))))) w) w) w) w) w) w) w) w

def F46_p2 (P : Program) (next1 : Env → World → Prop) (e3 : Env) (w : World) : Prop :=
  JoinC P (fun e4 w => Do P (binOp .add 3 (e4 4) (Value.int .i64 1)) (fun v10 w => @Eq (List Nat) [] [] ∧ next1 (upd (upd (upd e4 9 (e4 4)) 10 v10) 4 v10) w) w) (fun j3 => JoinC P (F46_p1 P j3) (fun j4 => Do P (binOp .lss 3 (e3 4) (Value.int .i64 16)) (fun v12 w => Cond v12 (Drew (fun w => RdNow P (binOp .mul 3 (Value.int .i64 4) (e3 4)) w (fun v16 => RdNow P (Instr.index 9 (e3 0) v16) w (fun v17 => RdNow P (convert 5 110 v17) w (fun v18 => RdNow P (binOp .mul 110 v18 (Value.int .u32 16777216)) w (fun v19 => RdNow P (binOp .mul 3 (Value.int .i64 4) (e3 4)) w (fun v22 => RdNow P (binOp .add 3 v22 (Value.int .i64 1)) w (fun v23 => RdNow P (Instr.index 9 (e3 0) v23) w (fun v24 => RdNow P (convert 5 110 v24) w (fun v25 => RdNow P (binOp .mul 110 v25 (Value.int .u32 65536)) w (fun v26 => RdNow P (binOp .add 110 v19 v26) w (fun v27 => RdNow P (binOp .mul 3 (Value.int .i64 4) (e3 4)) w (fun v30 => RdNow P (binOp .add 3 v30 (Value.int .i64 2)) w (fun v31 => RdNow P (Instr.index 9 (e3 0) v31) w (fun v32 => RdNow P (convert 5 110 v32) w (fun v33 => RdNow P (binOp .mul 110 v33 (Value.int .u32 256)) w (fun v34 => RdNow P (binOp .add 110 v27 v34) w (fun v35 => RdNow P (binOp .mul 3 (Value.int .i64 4) (e3 4)) w (fun v38 => RdNow P (binOp .add 3 v38 (Value.int .i64 3)) w (fun v39 => RdNow P (Instr.index 9 (e3 0) v39) w (fun v40 => RdNow P (convert 5 110 v40) w (fun v41 => RdNow P (binOp .add 110 v35 v41) w (fun v42 => RdNow P (Instr.indexAt 112 (e3 3) (e3 4)) w (fun v43 => Do P (Instr.storeAt 110 v43 v42) (fun _ w => @Eq (List Nat) [] [] ∧ j3 (upd (upd (upd (upd (upd (upd (upd (upd (upd (upd (upd (upd (upd (upd (upd (upd (upd (upd (upd (upd (upd (upd (upd (upd (upd (upd (upd (upd (upd (upd (upd (upd (upd e3 11 (e3 4)) 12 v12) 13 (e3 4)) 14 (e3 0)) 15 (e3 4)) 16 v16) 17 v17) 18 v18) 19 v19) 20 (e3 0)) 21 (e3 4)) 22 v22) 23 v23) 24 v24) 25 v25) 26 v26) 27 v27) 28 (e3 0)) 29 (e3 4)) 30 v30) 31 v31) 32 v32) 33 v33) 34 v34) 35 v35) 36 (e3 0)) 37 (e3 4)) 38 v38) 39 v39) 40 v40) 41 v41) 42 v42) 43 v43) w) w))))))))))))))))))))))) w) (@Eq (List Nat) [] [] ∧ j4 (upd (upd e3 11 (e3 4)) 12 v12) w)) w))

/-- bailee/baileeref02.schedule -/
def F46 (P : Program) (K : Value → World → Prop) (v0 : Value) (w : World) : Prop :=
  Do P (Instr.alloc 112 true (Value.tuple #[])) (fun v2 w => Do P (Instr.alloc 112 true (Value.tuple #[])) (fun v3 w => JoinC P (fun e1 w => Do P (Instr.loadAt 112 (e1 3)) (fun v81 w => Do P (Instr.storeAt 112 (e1 2) v81) (fun _ w => RdNow P (cellS 112 (e1 2)) w (fun vr0 => K vr0 w)) w) w) (fun j1 => Loop [7, 8, 11, 12, 13, 14, 15, 16, 17, 18, 19, 20, 21, 22, 23, 24, 25, 26, 27, 28, 29, 30, 31, 32, 33, 34, 35, 36, 37, 38, 39, 40, 41, 42, 43, 44, 45, 46, 47, 5, 48, 49, 50, 51, 6, 52, 53, 54, 55, 56, 57, 58, 59, 60, 61, 62, 63, 64, 65, 66, 67, 68, 69, 70, 71, 72, 73, 74, 75, 76, 77, 78, 79, 80, 9, 10, 4] (upd (upd (upd (env0 [v0]) 2 v2) 3 v3) 4 (Value.int .i64 0)) w (fun e2 next1 w => JoinC P (F46_p2 P next1) (fun j2 => Do P (binOp .lss 3 (e2 4) (Value.int .i64 64)) (fun v8 w => Cond v8 (@Eq (List Nat) [] [] ∧ j2 (upd (upd e2 7 (e2 4)) 8 v8) w) (@Eq (List Nat) [] [] ∧ j1 (upd (upd e2 7 (e2 4)) 8 v8) w)) w)))) w) w

def H46 : Hints := [(6, false, false, [], .rd 0 true 0 (.rd 1 true 0 (.rd 2 true 0 (.rd 3 true 0 (.rd 4 true 0 (.rd 5 true 0 (.rd 6 true 0 (.rd 7 true 0 (.rd 8 true 0 (.rd 9 true 0 (.rd 10 true 0 (.rd 11 true 0 (.rd 12 true 0 (.rd 13 true 0 (.rd 14 true 0 (.rd 15 true 0 (.rd 16 true 0 (.rd 17 true 0 (.rd 18 true 0 (.rd 19 true 0 (.rd 20 true 0 (.rd 21 true 0 (.rd 22 true 0 (.rd 23 true 0 (.rd 24 true 0 (.rd 25 true 0 (.rd 26 true 0 (.rd 27 true 0 (.rd 28 true 0 (.rd 29 true 0 (.rd 30 true 0 (.ch 31 [] (.done))))))))))))))))))))))))))))))))), (9, true, false, [0, 0, 0, 0, 0, 0, 0, 0, 0, 0, 0, 0, 0, 0, 0, 0, 0, 0, 0, 0, 0, 0, 0, 0, 0, 0, 0, 0, 0, 0], .rd 0 true 0 (.rd 1 true 0 (.rd 2 false 0 (.rd 3 false 0 (.rd 4 false 0 (.rd 5 true 0 (.rd 7 true 0 (.rd 10 true 0 (.rd 11 false 0 (.rd 14 true 0 (.rd 15 false 0 (.rd 16 false 0 (.rd 17 false 0 (.rd 19 true 0 (.rd 21 true 0 (.rd 24 true 0 (.rd 25 false 0 (.ch 6 [0] (.ch 8 [0] (.rd 9 false 0 (.rd 12 false 0 (.rd 13 false 0 (.rd 18 false 0 (.ch 20 [0] (.ch 22 [0] (.rd 23 true 0 (.rd 26 true 0 (.rd 27 true 0 (.rd 28 true 0 (.ch 29 [] (.done)))))))))))))))))))))))))))))))]

theorem F46_eq (K : Value → World → Prop) (v0 : Value) (w : World) : F46 Tryd.prog K v0 w = pt Tryd.prog H46 none Tryd.f46.ntmps (bodyOf Tryd.f46) (RetQ Tryd.prog Tryd.f46.results K) (env0 [v0]) [] w := by kernel_rfl

theorem F46_ok : codeOk cvTryd H46 (bodyOf Tryd.f46) = true := by kernel_rfl

theorem F46_has : Tryd.f46.body.isSome = true ∧ Nat.ble 1 Tryd.f46.ntmps = true := ⟨by kernel_rfl, by kernel_rfl⟩

theorem F46_calls {K : Value → World → Prop} {v0 : Value} {w : World} (h : F46 Tryd.prog K v0 w) : Calls Tryd.prog 46 #[v0] w (Returns K) :=
  calls_of_eq (cv := cvTryd) (H := H46) (fn := Tryd.f46) (args := [v0]) mixedTryd Tryd.func46 F46_has F46_ok (F46_eq K v0 w) h

def F47_p1 (P : Program) (next1 : Env → World → Prop) (e3 : Env) (w : World) : Prop :=
  JoinC P (fun e4 w => Do P (binOp .add 3 (e4 5) (Value.int .i64 1)) (fun v10 w => @Eq (List Nat) [] [] ∧ next1 (upd (upd (upd e4 9 (e4 5)) 10 v10) 5 v10) w) w) (fun j3 => Do P (binOp .quo 110 (e3 0) (Value.int .u32 2)) (fun v12 w => Do P (binOp .rem 110 (e3 0) (Value.int .u32 2)) (fun v14 w => Do P (binOp .mul 110 v14 (Value.int .u32 2147483648)) (fun v15 w => Do P (binOp .add 110 v12 v15) (fun v16 w => @Eq (List Nat) [] [] ∧ j3 (upd (upd (upd (upd (upd (upd (upd e3 11 (e3 0)) 12 v12) 13 (e3 0)) 14 v14) 15 v15) 16 v16) 0 v16) w) w) w) w) w)

/-- bailee/baileeref02.turn -/
def F47 (P : Program) (K : Value → World → Prop) (v0 v1 : Value) (w : World) : Prop :=
  JoinC P (fun e1 w => K (e1 0) w) (fun j1 => Loop [6, 7, 8, 11, 12, 13, 14, 15, 16, 0, 9, 10, 5] (upd (upd (env0 [v0, v1]) 4 (Value.int .u32 0)) 5 (Value.int .i64 0)) w (fun e2 next1 w => JoinC P (F47_p1 P next1) (fun j2 => Do P (binOp .lss 3 (e2 5) (e2 1)) (fun v8 w => Cond v8 (@Eq (List Nat) [] [] ∧ j2 (upd (upd (upd e2 6 (e2 5)) 7 (e2 1)) 8 v8) w) (@Eq (List Nat) [] [] ∧ j1 (upd (upd (upd e2 6 (e2 5)) 7 (e2 1)) 8 v8) w)) w)))

def H47 : Hints := []

theorem F47_eq (K : Value → World → Prop) (v0 v1 : Value) (w : World) : F47 Tryd.prog K v0 v1 w = pt Tryd.prog H47 none Tryd.f47.ntmps (bodyOf Tryd.f47) (RetQ Tryd.prog Tryd.f47.results K) (env0 [v0, v1]) [] w := by kernel_rfl

theorem F47_ok : codeOk cvTryd H47 (bodyOf Tryd.f47) = true := by kernel_rfl

theorem F47_has : Tryd.f47.body.isSome = true ∧ Nat.ble 2 Tryd.f47.ntmps = true := ⟨by kernel_rfl, by kernel_rfl⟩

theorem F47_calls {K : Value → World → Prop} {v0 v1 : Value} {w : World} (h : F47 Tryd.prog K v0 v1 w) : Calls Tryd.prog 47 #[v0, v1] w (Returns K) :=
  calls_of_eq (cv := cvTryd) (H := H47) (fn := Tryd.f47) (args := [v0, v1]) mixedTryd Tryd.func47 F47_has F47_ok (F47_eq K v0 v1 w) h

def F48_p1 (P : Program) (next1 : Env → World → Prop) (e3 : Env) (w : World) : Prop :=
  JoinC P (fun e4 w => Do P (binOp .add 3 (e4 5) (Value.int .i64 1)) (fun v13 w => @Eq (List Nat) [] [] ∧ next1 (upd (upd (upd e4 12 (e4 5)) 13 v13) 5 v13) w) w) (fun j3 => Do P (Instr.indexAt 118 (e3 4) (e3 5)) (fun v17 w => Do P (Instr.loadAt 9 v17) (fun v18 w => Do P (binOp .add 9 (Value.string ⟨#[0]⟩) v18) (fun v19 w => CallN P (callS (fnv 17) #[v19]) (fun v20 w => Do P (Instr.buildSlice 31 1 #[(0, v20)]) (fun v21 w => CallN P (builtin .append #[31, 31] 31 #[false, false] #[(e3 3), v21]) (fun v22 w => @Eq (List Nat) [] [] ∧ j3 (upd (upd (upd (upd (upd (upd (upd (upd (upd (upd e3 14 (e3 3)) 15 (e3 4)) 16 (e3 5)) 17 v17) 18 v18) 19 v19) 20 v20) 21 v21) 22 v22) 3 v22) w) w) w) w) w) w) w)

/-- bailee/baileeref06.row -/
def F48 (P : Program) (K : Value → World → Prop) (v0 : Value) (w : World) : Prop :=
  CallN P (callS (fnv 51) #[v0]) (fun v7 w => JoinC P (fun e1 w => K (e1 3) w) (fun j1 => Loop [8, 9, 10, 11, 14, 15, 16, 17, 18, 19, 20, 21, 22, 3, 12, 13, 5] (upd (upd (upd (upd (upd (upd (env0 [v0]) 2 (Value.slice none 0 0)) 3 (Value.slice none 0 0)) 6 v0) 7 v7) 4 v7) 5 (Value.int .i64 0)) w (fun e2 next1 w => JoinC P (F48_p1 P next1) (fun j2 => CallN P (builtin .len #[118] 3 #[false] #[(e2 4)]) (fun v10 w => Do P (binOp .lss 3 (e2 5) v10) (fun v11 w => Cond v11 (@Eq (List Nat) [] [] ∧ j2 (upd (upd (upd (upd e2 8 (e2 5)) 9 (e2 4)) 10 v10) 11 v11) w) (@Eq (List Nat) [] [] ∧ j1 (upd (upd (upd (upd e2 8 (e2 5)) 9 (e2 4)) 10 v10) 11 v11) w)) w) w)))) w

def H48 : Hints := []

theorem F48_eq (K : Value → World → Prop) (v0 : Value) (w : World) : F48 Tryd.prog K v0 w = pt Tryd.prog H48 none Tryd.f48.ntmps (bodyOf Tryd.f48) (RetQ Tryd.prog Tryd.f48.results K) (env0 [v0]) [] w := by kernel_rfl

theorem F48_ok : codeOk cvTryd H48 (bodyOf Tryd.f48) = true := by kernel_rfl

theorem F48_has : Tryd.f48.body.isSome = true ∧ Nat.ble 1 Tryd.f48.ntmps = true := ⟨by kernel_rfl, by kernel_rfl⟩

theorem F48_calls {K : Value → World → Prop} {v0 : Value} {w : World} (h : F48 Tryd.prog K v0 w) : Calls Tryd.prog 48 #[v0] w (Returns K) :=
  calls_of_eq (cv := cvTryd) (H := H48) (fn := Tryd.f48) (args := [v0]) mixedTryd Tryd.func48 F48_has F48_ok (F48_eq K v0 w) h

def F49_p1 (P : Program) (next1 : Env → World → Prop) (e3 : Env) (w : World) : Prop :=
  JoinC P (fun e4 w => Do P (binOp .add 3 (e4 4) (Value.int .i64 2)) (fun v10 w => @Eq (List Nat) [] [] ∧ next1 (upd (upd (upd e4 9 (e4 4)) 10 v10) 4 v10) w) w) (fun j3 => Do P (binOp .add 3 (e3 4) (Value.int .i64 1)) (fun v12 w => CallN P (builtin .len #[31] 3 #[false] #[(e3 0)]) (fun v14 w => Do P (binOp .lss 3 v12 v14) (fun v15 w => Cond v15 (Drew (fun w => Draw (fun S1 w => RdS P (S1 0) (Instr.indexAt 31 (e3 0) (e3 4)) (fun v19 => RdS P (S1 0) (Instr.loadAt 28 v19) (fun v20 => RdS P (S1 0) (binOp .add 3 (e3 4) (Value.int .i64 1)) (fun v23 => RdS P (S1 0) (Instr.indexAt 31 (e3 0) v23) (fun v24 => RdS P (S1 0) (Instr.loadAt 28 v24) (fun v25 => CallN P (callS (fnv 68) #[v20, v25]) (fun v26 w => Do P (Instr.buildSlice 31 1 #[(0, v26)]) (fun v27 w => CallN P (builtin .append #[31, 31] 31 #[false, false] #[(e3 3), v27]) (fun v28 w => @Eq (List Nat) [] [] ∧ j3 (upd (upd (upd (upd (upd (upd (upd (upd (upd (upd (upd (upd (upd (upd (upd (upd (upd (upd (upd e3 11 (e3 4)) 12 v12) 13 (e3 0)) 14 v14) 15 v15) 16 (e3 3)) 17 (e3 0)) 18 (e3 4)) 19 v19) 20 v20) 21 (e3 0)) 22 (e3 4)) 23 v23) 24 v24) 25 v25) 26 v26) 27 v27) 28 v28) 3 v28) w) w) w) w)))))) w) w) (Do P (Instr.indexAt 31 (e3 0) (e3 4)) (fun v32 w => Do P (Instr.loadAt 28 v32) (fun v33 w => Do P (Instr.buildSlice 31 1 #[(0, v33)]) (fun v34 w => CallN P (builtin .append #[31, 31] 31 #[false, false] #[(e3 3), v34]) (fun v35 w => @Eq (List Nat) [] [] ∧ j3 (upd (upd (upd (upd (upd (upd (upd (upd (upd (upd (upd (upd (upd e3 11 (e3 4)) 12 v12) 13 (e3 0)) 14 v14) 15 v15) 29 (e3 3)) 30 (e3 0)) 31 (e3 4)) 32 v32) 33 v33) 34 v34) 35 v35) 3 v35) w) w) w) w) w)) w) w) w)

/-- bailee/baileeref06.above -/
def F49 (P : Program) (K : Value → World → Prop) (v0 : Value) (w : World) : Prop :=
  JoinC P (fun e1 w => K (e1 3) w) (fun j1 => Loop [5, 6, 7, 8, 11, 12, 13, 14, 15, 16, 17, 18, 19, 20, 21, 22, 23, 24, 25, 26, 27, 28, 3, 29, 30, 31, 32, 33, 34, 35, 9, 10, 4] (upd (upd (upd (env0 [v0]) 2 (Value.slice none 0 0)) 3 (Value.slice none 0 0)) 4 (Value.int .i64 0)) w (fun e2 next1 w => JoinC P (F49_p1 P next1) (fun j2 => CallN P (builtin .len #[31] 3 #[false] #[(e2 0)]) (fun v7 w => Do P (binOp .lss 3 (e2 4) v7) (fun v8 w => Cond v8 (@Eq (List Nat) [] [] ∧ j2 (upd (upd (upd (upd e2 5 (e2 4)) 6 (e2 0)) 7 v7) 8 v8) w) (@Eq (List Nat) [] [] ∧ j1 (upd (upd (upd (upd e2 5 (e2 4)) 6 (e2 0)) 7 v7) 8 v8) w)) w) w)))

def H49 : Hints := [(6, true, false, [0, 0, 0, 0, 0, 0, 0, 0, 0, 0, 0, 0, 0, 0], .rd 0 true 0 (.rd 1 true 0 (.rd 2 true 0 (.rd 3 false 0 (.rd 4 false 0 (.rd 5 true 0 (.rd 6 true 0 (.rd 7 false 0 (.rd 8 false 0 (.rd 9 false 0 (.ch 10 [] (.ch 11 [] (.ch 12 [] (.rd 13 true 0 (.done)))))))))))))))]

theorem F49_eq (K : Value → World → Prop) (v0 : Value) (w : World) : F49 Tryd.prog K v0 w = pt Tryd.prog H49 none Tryd.f49.ntmps (bodyOf Tryd.f49) (RetQ Tryd.prog Tryd.f49.results K) (env0 [v0]) [] w := by kernel_rfl

theorem F49_ok : codeOk cvTryd H49 (bodyOf Tryd.f49) = true := by kernel_rfl

theorem F49_has : Tryd.f49.body.isSome = true ∧ Nat.ble 1 Tryd.f49.ntmps = true := ⟨by kernel_rfl, by kernel_rfl⟩

theorem F49_calls {K : Value → World → Prop} {v0 : Value} {w : World} (h : F49 Tryd.prog K v0 w) : Calls Tryd.prog 49 #[v0] w (Returns K) :=
  calls_of_eq (cv := cvTryd) (H := H49) (fn := Tryd.f49) (args := [v0]) mixedTryd Tryd.func49 F49_has F49_ok (F49_eq K v0 w) h

/-- bailee/baileeref06.crown -/
def F50 (P : Program) (K : Value → World → Prop) (v0 v1 : Value) (w : World) : Prop :=
  Do P (Instr.box 28 v1) (fun v3 w => Do P (Instr.alloc 28 true (Value.tuple #[])) (fun v4 w => Drew (fun w => Draw (fun S1 w => RdS P (S1 0) (convert 3 23 v0) (fun v6 => RdS P (S1 0) (Instr.sliceAt 28 v3 none none none) (fun v9 => RdS P (S1 0) (convert 22 9 v9) (fun v10 => CallN P (callS (fnv 69) #[v6]) (fun v7 w => S1 0 w ∧ (RdS P (S1 0) (binOp .add 9 (Value.string ⟨#[2]⟩) v7) (fun v8 => RdNow P (binOp .add 9 v8 v10) w (fun v11 => CallN P (callS (fnv 17) #[v11]) (fun v12 w => Do P (Instr.storeAt 28 v4 v12) (fun _ w => RdNow P (cellS 28 v4) w (fun vr0 => K vr0 w)) w) w)))) w)))) w) w) w) w

def H50 : Hints := [(1, true, false, [0, 0, 0, 0, 0, 0, 0, 0, 0], .rd 0 true 0 (.rd 1 false 0 (.rd 4 false 0 (.rd 5 false 0 (.ch 2 [0] (.rd 3 false 0 (.rd 6 true 0 (.ch 7 [] (.ch 8 [] (.done))))))))))]

theorem F50_eq (K : Value → World → Prop) (v0 v1 : Value) (w : World) : F50 Tryd.prog K v0 v1 w = pt Tryd.prog H50 none Tryd.f50.ntmps (bodyOf Tryd.f50) (RetQ Tryd.prog Tryd.f50.results K) (env0 [v0, v1]) [] w := by kernel_rfl

theorem F50_ok : codeOk cvTryd H50 (bodyOf Tryd.f50) = true := by kernel_rfl

theorem F50_has : Tryd.f50.body.isSome = true ∧ Nat.ble 2 Tryd.f50.ntmps = true := ⟨by kernel_rfl, by kernel_rfl⟩

theorem F50_calls {K : Value → World → Prop} {v0 v1 : Value} {w : World} (h : F50 Tryd.prog K v0 v1 w) : Calls Tryd.prog 50 #[v0, v1] w (Returns K) :=
  calls_of_eq (cv := cvTryd) (H := H50) (fn := Tryd.f50) (args := [v0, v1]) mixedTryd Tryd.func50 F50_has F50_ok (F50_eq K v0 v1 w) h

def F51_p1 (P : Program) (j1 : Env → World → Prop) (e2 : Env) (next1 : Env → World → Prop) (w : World) : Prop :=
  JoinC P (fun e3 w => Do P (Instr.sliceAt 9 (e3 0) none (some (Value.int .i64 64)) none) (fun v9 w => Do P (Instr.buildSlice 118 1 #[(0, v9)]) (fun v10 w => CallN P (builtin .append #[118, 118] 118 #[false, false] #[(e3 3), v10]) (fun v11 w => Do P (Instr.sliceAt 9 (e3 0) (some (Value.int .i64 64)) none none) (fun v13 w => @Eq (List Nat) [] [] ∧ next1 (upd (upd (upd (upd (upd (upd (upd (upd (upd e3 7 (e3 3)) 8 (e3 0)) 9 v9) 10 v10) 11 v11) 3 v11) 12 (e3 0)) 13 v13) 0 v13) w) w) w) w) w) (fun j2 => CallN P (builtin .len #[9] 3 #[false] #[(e2 0)]) (fun v5 w => Do P (binOp .gtr 3 v5 (Value.int .i64 64)) (fun v6 w => Cond v6 (@Eq (List Nat) [] [] ∧ j2 (upd (upd (upd e2 4 (e2 0)) 5 v5) 6 v6) w) (@Eq (List Nat) [] [] ∧ j1 (upd (upd (upd e2 4 (e2 0)) 5 v5) 6 v6) w)) w) w)

/-- bailee/baileeref06.Split -/
def F51 (P : Program) (K : Value → World → Prop) (v0 : Value) (w : World) : Prop :=
  JoinC P (fun e1 w => Do P (Instr.buildSlice 118 1 #[(0, (e1 0))]) (fun v16 w => CallN P (builtin .append #[118, 118] 118 #[false, false] #[(e1 3), v16]) (fun v17 w => K v17 w) w) w) (fun j1 => Loop [4, 5, 6, 7, 8, 9, 10, 11, 3, 12, 13, 0] (upd (upd (env0 [v0]) 2 (Value.slice none 0 0)) 3 (Value.slice none 0 0)) w (F51_p1 P j1))

def H51 : Hints := []

theorem F51_eq (K : Value → World → Prop) (v0 : Value) (w : World) : F51 Tryd.prog K v0 w = pt Tryd.prog H51 none Tryd.f51.ntmps (bodyOf Tryd.f51) (RetQ Tryd.prog Tryd.f51.results K) (env0 [v0]) [] w := by kernel_rfl

theorem F51_ok : codeOk cvTryd H51 (bodyOf Tryd.f51) = true := by kernel_rfl

theorem F51_has : Tryd.f51.body.isSome = true ∧ Nat.ble 1 Tryd.f51.ntmps = true := ⟨by kernel_rfl, by kernel_rfl⟩

theorem F51_calls {K : Value → World → Prop} {v0 : Value} {w : World} (h : F51 Tryd.prog K v0 w) : Calls Tryd.prog 51 #[v0] w (Returns K) :=
  calls_of_eq (cv := cvTryd) (H := H51) (fn := Tryd.f51) (args := [v0]) mixedTryd Tryd.func51 F51_has F51_ok (F51_eq K v0 w) h

/-- (*bailee/audit.Auditor).Late$1 -/
def F52 (P : Program) (K : Value → World → Prop) (v0 v1 v2 : Value) (w : World) : Prop :=
  Do P (Instr.box 96 v0) (fun v3 w => Do P (Instr.fieldAt 96 v3 3) (fun v5 w => Do P (Instr.loadAt 23 v5) (fun v6 w => Do P (Instr.loadAt 23 v1) (fun v7 w => Do P (binOp .leq 23 v6 v7) (fun v8 w => Join (fun e1 w => CallN P (pickS (e1 9) (e1 15) (Value.bool false)) (fun v16 w => K v16 w) w) (fun k1 => Guard v8 true (Do P (Instr.loadAt 23 v1) (fun v10 w => Do P (Instr.fieldAt 96 v3 3) (fun v11 w => Do P (Instr.loadAt 23 v11) (fun v12 w => Do P (binOp .sub 23 v10 v12) (fun v13 w => Do P (Instr.loadAt 23 v2) (fun v14 w => Do P (binOp .geq 23 v13 v14) (fun v15 w => k1 (upd (upd (upd (upd (upd (upd (upd (upd (upd (upd (upd (upd (upd (env0 [v0, v1, v2]) 3 v3) 4 (Value.bool false)) 5 v5) 6 v6) 7 v7) 8 v8) 9 v8) 10 v10) 11 v11) 12 v12) 13 v13) 14 v14) 15 v15) w) w) w) w) w) w) w) (k1 (upd (upd (upd (upd (upd (upd (upd (upd (upd (upd (upd (upd (upd (env0 [v0, v1, v2]) 3 v3) 4 (Value.bool false)) 5 v5) 6 v6) 7 v7) 8 v8) 9 v8) 10 undef) 11 undef) 12 undef) 13 undef) 14 undef) 15 undef) w))) w) w) w) w) w

def H52 : Hints := [(1, false, false, [], .ch 0 [] (.ch 1 [] (.ch 2 [] (.ch 3 [] (.ch 4 [] (.grp 4 true [(5, none), (6, none), (7, none), (8, none), (9, none), (10, none)] (.ch 11 [] (.ch 12 [] (.done)))))))))]

theorem F52_eq (K : Value → World → Prop) (v0 v1 v2 : Value) (w : World) : F52 Tryd.prog K v0 v1 v2 w = pt Tryd.prog H52 none Tryd.f52.ntmps (bodyOf Tryd.f52) (RetQ Tryd.prog Tryd.f52.results K) (env0 [v0, v1, v2]) [] w := by kernel_rfl

theorem F52_ok : codeOk cvTryd H52 (bodyOf Tryd.f52) = true := by kernel_rfl

theorem F52_has : Tryd.f52.body.isSome = true ∧ Nat.ble 3 Tryd.f52.ntmps = true := ⟨by kernel_rfl, by kernel_rfl⟩

theorem F52_calls {K : Value → World → Prop} {v0 v1 v2 : Value} {w : World} (h : F52 Tryd.prog K v0 v1 v2 w) : Calls Tryd.prog 52 #[v0, v1, v2] w (Returns K) :=
  calls_of_eq (cv := cvTryd) (H := H52) (fn := Tryd.f52) (args := [v0, v1, v2]) mixedTryd Tryd.func52 F52_has F52_ok (F52_eq K v0 v1 v2 w) h

/-- slices.Sort[[]int,int] -/
def F53 (P : Program) (K : Value → World → Prop) (v0 : Value) (w : World) : Prop :=
  CallN P (builtin .len #[65] 3 #[false] #[v0]) (fun v4 w => Do P (convert 3 143 v4) (fun v8 w => CallN P (callS (fnv 71) #[v8]) (fun v9 w => CallN P (callS (fnv 70) #[v0, (Value.int .i64 0), v4, v9]) (fun _ w => K (Value.tuple #[]) w) w) w) w) w

def H53 : Hints := []

theorem F53_eq (K : Value → World → Prop) (v0 : Value) (w : World) : F53 Tryd.prog K v0 w = pt Tryd.prog H53 none Tryd.f53.ntmps (bodyOf Tryd.f53) (RetQ Tryd.prog Tryd.f53.results K) (env0 [v0]) [] w := by kernel_rfl

theorem F53_ok : codeOk cvTryd H53 (bodyOf Tryd.f53) = true := by kernel_rfl

theorem F53_has : Tryd.f53.body.isSome = true ∧ Nat.ble 1 Tryd.f53.ntmps = true := ⟨by kernel_rfl, by kernel_rfl⟩

theorem F53_calls {K : Value → World → Prop} {v0 : Value} {w : World} (h : F53 Tryd.prog K v0 w) : Calls Tryd.prog 53 #[v0] w (Returns K) :=
  calls_of_eq (cv := cvTryd) (H := H53) (fn := Tryd.f53) (args := [v0]) mixedTryd Tryd.func53 F53_has F53_ok (F53_eq K v0 w) h

/-- bailee/baileeref24.without -/
def F54 (P : Program) (K : Value → World → Prop) (v0 v1 : Value) (w : World) : Prop :=
  Do P (Instr.box 52 v0) (fun v2 w => Do P (Instr.alloc 52 true (Value.tuple #[])) (fun v4 w => Do P (Instr.fieldAt 52 v2 1) (fun v7 w => Do P (Instr.loadAt 50 v7) (fun v8 w => Do P (Instr.sliceAt 50 v8 none (some v1) none) (fun v10 w => CallN P (builtin .append #[50, 50] 50 #[false, false] #[(Value.slice none 0 0), v10]) (fun v11 w => Do P (Instr.fieldAt 52 v2 1) (fun v13 w => Do P (Instr.loadAt 50 v13) (fun v14 w => Do P (binOp .add 3 v1 (Value.int .i64 1)) (fun v16 w => Do P (Instr.sliceAt 50 v14 (some v16) none none) (fun v17 w => CallN P (builtin .append #[50, 50] 50 #[false, false] #[v11, v17]) (fun v18 w => Do P (Instr.fieldAt 52 v2 1) (fun v19 w => Do P (Instr.storeAt 50 v19 v18) (fun _ w => Do P (Instr.loadAt 52 v2) (fun v20 w => Do P (Instr.storeAt 52 v4 v20) (fun _ w => RdNow P (cellS 52 v4) w (fun vr0 => K vr0 w)) w) w) w) w) w) w) w) w) w) w) w) w) w) w) w

def H54 : Hints := []

theorem F54_eq (K : Value → World → Prop) (v0 v1 : Value) (w : World) : F54 Tryd.prog K v0 v1 w = pt Tryd.prog H54 none Tryd.f54.ntmps (bodyOf Tryd.f54) (RetQ Tryd.prog Tryd.f54.results K) (env0 [v0, v1]) [] w := by kernel_rfl

theorem F54_ok : codeOk cvTryd H54 (bodyOf Tryd.f54) = true := by kernel_rfl

theorem F54_has : Tryd.f54.body.isSome = true ∧ Nat.ble 2 Tryd.f54.ntmps = true := ⟨by kernel_rfl, by kernel_rfl⟩

theorem F54_calls {K : Value → World → Prop} {v0 v1 : Value} {w : World} (h : F54 Tryd.prog K v0 v1 w) : Calls Tryd.prog 54 #[v0, v1] w (Returns K) :=
  calls_of_eq (cv := cvTryd) (H := H54) (fn := Tryd.f54) (args := [v0, v1]) mixedTryd Tryd.func54 F54_has F54_ok (F54_eq K v0 v1 w) h

def F55_p1 (P : Program) (K : Value → World → Prop) (e3 : Env) (w : World) : Prop :=
  JoinC P (fun e4 w => K (Value.int .i64 0) w) (fun j4 => Drew (fun w => Draw (fun S1 w => RdSN P (S1 0) (builtin .len #[31] 3 #[false] #[(e3 4)]) (fun v73 => RdS P (S1 0) (eqS .neq 3 false false (e3 12) v73) (fun v74 => Join (fun e5 w => RdNowN P (pickS (e5 75) (Value.bool true) (e5 80)) w (fun v81 => Cond v81 (K (Value.int .i64 21) w) (@Eq (List Nat) [] [] ∧ j4 (upd e5 81 v81) w))) (fun k1 => Guard v74 false (RdNow P (Instr.loadAt 28 (e3 11)) w (fun v77 => RdS P (S1 0) (Instr.loadAt 28 (e3 5)) (fun v79 => CallN P (callS (fnv 50) #[(e3 1), v77]) (fun v78 w => (S1 0) w ∧ (RdNow P (eqS .neq 28 false false v78 v79) w (fun v80 => k1 (upd (upd (upd (upd (upd (upd (upd (upd (upd (upd e3 71 (e3 12)) 72 (e3 4)) 73 v73) 74 v74) 75 v74) 76 (e3 1)) 77 v77) 79 v79) 78 v78) 80 v80) w))) w))) (k1 (upd (upd (upd (upd (upd (upd (upd (upd (upd (upd e3 71 (e3 12)) 72 (e3 4)) 73 v73) 74 v74) 75 v74) 76 undef) 77 undef) 79 undef) 78 undef) 80 undef) w))))) w) w)

def F55_p2 (P : Program) (j7 : Env → World → Prop) (e11 : Env) (w : World) : Prop :=
  JoinC P (fun e12 w => Do P (binOp .add 3 (e12 12) (Value.int .i64 1)) (fun v68 w => @Eq (List Nat) [] [] ∧ j7 (upd (upd (upd e12 67 (e12 12)) 68 v68) 12 v68) w) w) (fun j9 => Do P (binOp .rem 3 (e11 2) (Value.int .i64 2)) (fun v53 w => Do P (eqS .eql 3 false true v53 (Value.int .i64 1)) (fun v54 w => Cond v54 (Drew (fun w => Draw (fun S2 w => RdS P (S2 0) (Instr.indexAt 31 (e11 4) (e11 12)) (fun v57 => RdNow P (Instr.loadAt 28 v57) w (fun v58 => RdNow P (Instr.loadAt 28 (e11 11)) w (fun v59 => CallN P (callS (fnv 68) #[v58, v59]) (fun v60 w => Do P (Instr.storeAt 28 (e11 11) v60) (fun _ w => @Eq (List Nat) [] [] ∧ j9 (upd (upd (upd (upd (upd (upd (upd (upd (upd e11 52 (e11 2)) 53 v53) 54 v54) 55 (e11 4)) 56 (e11 12)) 57 v57) 58 v58) 59 v59) 60 v60) w) w) w)))) w) w) (Drew (fun w => Draw (fun S3 w => RdNow P (Instr.loadAt 28 (e11 11)) w (fun v61 => RdS P (S3 0) (Instr.indexAt 31 (e11 4) (e11 12)) (fun v64 => RdNow P (Instr.loadAt 28 v64) w (fun v65 => CallN P (callS (fnv 68) #[v61, v65]) (fun v66 w => Do P (Instr.storeAt 28 (e11 11) v66) (fun _ w => @Eq (List Nat) [] [] ∧ j9 (upd (upd (upd (upd (upd (upd (upd (upd (upd e11 52 (e11 2)) 53 v53) 54 v54) 61 v61) 62 (e11 4)) 63 (e11 12)) 64 v64) 65 v65) 66 v66) w) w) w)))) w) w)) w) w)

def F55_p3 (P : Program) (next1 : Env → World → Prop) (K : Value → World → Prop) (e7 : Env) (w : World) : Prop :=
  JoinC P (fun e8 w => Do P (binOp .quo 3 (e8 13) (Value.int .i64 2)) (fun v35 w => Do P (binOp .rem 3 (e8 13) (Value.int .i64 2)) (fun v37 w => Do P (binOp .add 3 v35 v37) (fun v38 w => @Eq (List Nat) [] [] ∧ next1 (upd (upd (upd (upd (upd (upd e8 34 (e8 13)) 35 v35) 36 (e8 13)) 37 v37) 38 v38) 13 v38) w) w) w) w) (fun j6 => JoinC P (fun e9 w => Do P (binOp .quo 3 (e9 2) (Value.int .i64 2)) (fun v70 w => @Eq (List Nat) [] [] ∧ j6 (upd (upd (upd e9 69 (e9 2)) 70 v70) 2 v70) w) w) (fun j7 => Do P (binOp .rem 3 (e7 2) (Value.int .i64 2)) (fun v40 w => Do P (eqS .eql 3 false true v40 (Value.int .i64 1)) (fun v41 w => Join (fun e10 w => CallN P (pickS (e10 42) (Value.bool true) (e10 46)) (fun v47 w => Cond v47 (JoinC P (F55_p2 P j7) (fun j8 => CallN P (builtin .len #[31] 3 #[false] #[(e10 4)]) (fun v50 w => Do P (binOp .geq 3 (e10 12) v50) (fun v51 w => Cond v51 (K (Value.int .i64 21) w) (@Eq (List Nat) [] [] ∧ j8 (upd (upd (upd (upd (upd e10 47 v47) 48 (e10 12)) 49 (e10 4)) 50 v50) 51 v51) w)) w) w)) (@Eq (List Nat) [] [] ∧ j7 (upd e10 47 v47) w)) w) (fun k2 => Guard v41 false (Do P (binOp .add 3 (e7 2) (Value.int .i64 1)) (fun v44 w => Do P (binOp .lss 3 v44 (e7 13)) (fun v46 w => k2 (upd (upd (upd (upd (upd (upd (upd (upd e7 39 (e7 2)) 40 v40) 41 v41) 42 v41) 43 (e7 2)) 44 v44) 45 (e7 13)) 46 v46) w) w) w) (k2 (upd (upd (upd (upd (upd (upd (upd (upd e7 39 (e7 2)) 40 v40) 41 v41) 42 v41) 43 undef) 44 undef) 45 undef) 46 undef) w))) w) w))

def F55_p4 (P : Program) (K : Value → World → Prop) (e2 : Env) (w : World) : Prop :=
  Do P (binOp .add 9 (Value.string ⟨#[0]⟩) (e2 3)) (fun v29 w => CallN P (callS (fnv 17) #[v29]) (fun v30 w => Do P (Instr.alloc 28 true (Value.tuple #[])) (fun v11 w => Do P (Instr.storeAt 28 v11 v30) (fun _ w => JoinC P (F55_p1 P K) (fun j3 => Loop [32, 33, 39, 40, 41, 42, 43, 44, 45, 46, 47, 48, 49, 50, 51, 10, 52, 53, 54, 55, 56, 57, 58, 59, 60, 61, 62, 63, 64, 65, 66, 67, 68, 12, 69, 70, 2, 34, 35, 36, 37, 38, 13] (upd (upd (upd (upd (upd (upd (upd e2 28 (e2 3)) 29 v29) 30 v30) 11 v11) 12 (Value.int .i64 0)) 31 (e2 1)) 13 (e2 1)) w (fun e6 next1 w => JoinC P (F55_p3 P next1 K) (fun j5 => Do P (binOp .gtr 3 (e6 13) (Value.int .i64 1)) (fun v33 w => Cond v33 (@Eq (List Nat) [] [] ∧ j5 (upd (upd e6 32 (e6 13)) 33 v33) w) (@Eq (List Nat) [] [] ∧ j3 (upd (upd e6 32 (e6 13)) 33 v33) w)) w)))) w) w) w) w

/-- bailee/baileeref06.Check -/
def F55 (P : Program) (K : Value → World → Prop) (v0 v1 v2 v3 v4 : Value) (w : World) : Prop :=
  Do P (Instr.box 28 v0) (fun v5 w => JoinC P (fun e1 w => JoinC P (F55_p4 P K) (fun j2 => CallN P (builtin .len #[9] 3 #[false] #[(e1 3)]) (fun v26 w => Do P (binOp .gtr 3 v26 (Value.int .i64 64)) (fun v27 w => Cond v27 (K (Value.int .i64 21) w) (@Eq (List Nat) [] [] ∧ j2 (upd (upd (upd e1 25 (e1 3)) 26 v26) 27 v27) w)) w) w)) (fun j1 => Do P (binOp .lss 3 v1 (Value.int .i64 1)) (fun v15 w => Join (fun e13 w => CallN P (pickS (e13 16) (Value.bool true) (e13 18)) (fun v19 w => Join (fun e14 w => CallN P (pickS (e14 20) (Value.bool true) (e14 23)) (fun v24 w => Cond v24 (K (Value.int .i64 14) w) (@Eq (List Nat) [] [] ∧ j1 (upd e14 24 v24) w)) w) (fun k4 => Guard v19 false (Do P (binOp .geq 3 (e13 2) (e13 1)) (fun v23 w => k4 (upd (upd (upd (upd (upd e13 19 v19) 20 v19) 21 (e13 2)) 22 (e13 1)) 23 v23) w) w) (k4 (upd (upd (upd (upd (upd e13 19 v19) 20 v19) 21 undef) 22 undef) 23 undef) w))) w) (fun k3 => Guard v15 false (Do P (binOp .lss 3 v2 (Value.int .i64 0)) (fun v18 w => k3 (upd (upd (upd (upd (upd (upd (upd (env0 [v0, v1, v2, v3, v4]) 5 v5) 10 (Value.int .i64 0)) 14 v1) 15 v15) 16 v15) 17 v2) 18 v18) w) w) (k3 (upd (upd (upd (upd (upd (upd (upd (env0 [v0, v1, v2, v3, v4]) 5 v5) 10 (Value.int .i64 0)) 14 v1) 15 v15) 16 v15) 17 undef) 18 undef) w))) w)) w

def H55 : Hints := [(1, false, false, [], .ch 0 [] (.ch 1 [] (.ch 2 [] (.grp 2 false [(3, none), (4, none)] (.ch 5 [] (.ch 6 [] (.grp 6 false [(7, none), (8, none), (9, none)] (.ch 10 [] (.done))))))))), (10, false, false, [], .ch 0 [] (.ch 1 [] (.ch 2 [] (.ch 3 [] (.grp 3 false [(4, none), (5, none), (6, none), (7, none)] (.ch 8 [] (.done))))))), (14, true, false, [0, 0, 0, 0, 0, 0, 0], .rd 0 true 0 (.rd 1 true 0 (.rd 2 false 0 (.rd 3 true 0 (.rd 4 true 0 (.ch 5 [] (.ch 6 [] (.done)))))))), (15, true, false, [0, 0, 0, 0, 0, 0, 0], .rd 0 true 0 (.rd 1 true 0 (.rd 2 true 0 (.rd 3 false 0 (.rd 4 true 0 (.ch 5 [] (.ch 6 [] (.done)))))))), (18, true, false, [0, 0, 0, 0, 0, 0, 0, 0, 0, 0, 0], .rd 0 true 0 (.rd 1 true 0 (.rd 2 false 0 (.rd 3 false 0 (.rd 4 true 0 (.grp 4 false [(5, some true), (6, some true), (8, some false), (7, none), (9, some true)] (.rd 10 true 0 (.done))))))))]

theorem F55_eq (K : Value → World → Prop) (v0 v1 v2 v3 v4 : Value) (w : World) : F55 Tryd.prog K v0 v1 v2 v3 v4 w = pt Tryd.prog H55 none Tryd.f55.ntmps (bodyOf Tryd.f55) (RetQ Tryd.prog Tryd.f55.results K) (env0 [v0, v1, v2, v3, v4]) [] w := by kernel_rfl

theorem F55_ok : codeOk cvTryd H55 (bodyOf Tryd.f55) = true := by kernel_rfl

theorem F55_has : Tryd.f55.body.isSome = true ∧ Nat.ble 5 Tryd.f55.ntmps = true := ⟨by kernel_rfl, by kernel_rfl⟩

theorem F55_calls {K : Value → World → Prop} {v0 v1 v2 v3 v4 : Value} {w : World} (h : F55 Tryd.prog K v0 v1 v2 v3 v4 w) : Calls Tryd.prog 55 #[v0, v1, v2, v3, v4] w (Returns K) :=
  calls_of_eq (cv := cvTryd) (H := H55) (fn := Tryd.f55) (args := [v0, v1, v2, v3, v4]) mixedTryd Tryd.func55 F55_has F55_ok (F55_eq K v0 v1 v2 v3 v4 w) h

/-- bailee/proof.below -/
def F56 (P : Program) (K : Value → World → Prop) (v0 : Value) (w : World) : Prop :=
  Do P (Instr.buildSlice 22 1 #[(0, (Value.int .u8 0))]) (fun v3 w => CallN P (builtin .append #[22, 22] 22 #[false, false] #[v3, v0]) (fun v5 w => K v5 w) w) w

def H56 : Hints := []

theorem F56_eq (K : Value → World → Prop) (v0 : Value) (w : World) : F56 Tryd.prog K v0 w = pt Tryd.prog H56 none Tryd.f56.ntmps (bodyOf Tryd.f56) (RetQ Tryd.prog Tryd.f56.results K) (env0 [v0]) [] w := by kernel_rfl

theorem F56_ok : codeOk cvTryd H56 (bodyOf Tryd.f56) = true := by kernel_rfl

theorem F56_has : Tryd.f56.body.isSome = true ∧ Nat.ble 1 Tryd.f56.ntmps = true := ⟨by kernel_rfl, by kernel_rfl⟩

theorem F56_calls {K : Value → World → Prop} {v0 : Value} {w : World} (h : F56 Tryd.prog K v0 w) : Calls Tryd.prog 56 #[v0] w (Returns K) :=
  calls_of_eq (cv := cvTryd) (H := H56) (fn := Tryd.f56) (args := [v0]) mixedTryd Tryd.func56 F56_has F56_ok (F56_eq K v0 w) h

/-- slices.Chunk[[]bailee/api.Id,bailee/api.Id] -/
def F57 (P : Program) (K : Value → World → Prop) (v0 v1 : Value) (w : World) : Prop :=
  Do P (Instr.box 31 v0) (fun v2 w => Do P (Instr.box 3 v1) (fun v3 w => JoinC P (fun e1 w => Do P (Instr.makeFunc (Fn.func 72) #[] #[(e1 2), (e1 3)]) (fun v8 w => K v8 w) w) (fun j1 => Do P (Instr.loadAt 3 v3) (fun v5 w => Do P (binOp .lss 3 v5 (Value.int .i64 1)) (fun v6 w => Cond v6 (Do P (Instr.makeInterface 9 (Value.string ⟨#[99, 97, 110, 110, 111, 116, 32, 98, 101, 32, 108, 101, 115, 115, 32, 116, 104, 97, 110, 32, 49]⟩)) (fun _ w => False) w) (@Eq (List Nat) [] [] ∧ j1 (upd (upd (upd (upd (upd (env0 [v0, v1]) 2 v2) 3 v3) 4 Value.nilFunc) 5 v5) 6 v6) w)) w) w)) w) w

def H57 : Hints := []

theorem F57_eq (K : Value → World → Prop) (v0 v1 : Value) (w : World) : F57 Tryd.prog K v0 v1 w = pt Tryd.prog H57 none Tryd.f57.ntmps (bodyOf Tryd.f57) (RetQ Tryd.prog Tryd.f57.results K) (env0 [v0, v1]) [] w := by kernel_rfl

theorem F57_ok : codeOk cvTryd H57 (bodyOf Tryd.f57) = true := by kernel_rfl

theorem F57_has : Tryd.f57.body.isSome = true ∧ Nat.ble 2 Tryd.f57.ntmps = true := ⟨by kernel_rfl, by kernel_rfl⟩

theorem F57_calls {K : Value → World → Prop} {v0 v1 : Value} {w : World} (h : F57 Tryd.prog K v0 v1 w) : Calls Tryd.prog 57 #[v0, v1] w (Returns K) :=
  calls_of_eq (cv := cvTryd) (H := H57) (fn := Tryd.f57) (args := [v0, v1]) mixedTryd Tryd.func57 F57_has F57_ok (F57_eq K v0 v1 w) h

/-- bailee/proof.pair -/
def F58 (P : Program) (K : Value → World → Prop) (v0 v1 : Value) (w : World) : Prop :=
  Do P (Instr.box 28 v0) (fun v2 w => Do P (Instr.box 28 v1) (fun v3 w => Drew (fun w => Draw (fun S1 w => RdS P (S1 0) (Instr.sliceAt 28 v2 none none none) (fun v6 => RdS P (S1 0) (Instr.sliceAt 28 v3 none none none) (fun v7 => Do P (Instr.buildSlice 22 1 #[(0, (Value.int .u8 1))]) (fun v5 w => S1 0 w ∧ (Do P (Instr.buildSlice 101 3 #[(0, v5), (1, v6), (2, v7)]) (fun v8 w => CallN P (callS (fnv 73) #[v8]) (fun v9 w => K v9 w) w) w)) w))) w) w) w) w

def H58 : Hints := [(1, true, false, [0, 0, 0, 0, 0, 0], .rd 1 false 0 (.rd 2 false 0 (.ch 0 [0] (.ch 3 [] (.ch 4 [] (.rd 5 true 0 (.done)))))))]

theorem F58_eq (K : Value → World → Prop) (v0 v1 : Value) (w : World) : F58 Tryd.prog K v0 v1 w = pt Tryd.prog H58 none Tryd.f58.ntmps (bodyOf Tryd.f58) (RetQ Tryd.prog Tryd.f58.results K) (env0 [v0, v1]) [] w := by kernel_rfl

theorem F58_ok : codeOk cvTryd H58 (bodyOf Tryd.f58) = true := by kernel_rfl

theorem F58_has : Tryd.f58.body.isSome = true ∧ Nat.ble 2 Tryd.f58.ntmps = true := ⟨by kernel_rfl, by kernel_rfl⟩

theorem F58_calls {K : Value → World → Prop} {v0 v1 : Value} {w : World} (h : F58 Tryd.prog K v0 v1 w) : Calls Tryd.prog 58 #[v0, v1] w (Returns K) :=
  calls_of_eq (cv := cvTryd) (H := H58) (fn := Tryd.f58) (args := [v0, v1]) mixedTryd Tryd.func58 F58_has F58_ok (F58_eq K v0 v1 w) h

def F59_p1 (P : Program) (next1 : Env → World → Prop) (e7 : Env) (w : World) : Prop :=
  JoinC P (fun e8 w => Do P (binOp .add 3 (e8 72) (Value.int .i64 1)) (fun v90 w => @Eq (List Nat) [] [] ∧ next1 (upd (upd e8 90 v90) 72 v90) w) w) (fun j7 => Do P (Instr.indexAt 101 (e7 70) (e7 72)) (fun v74 w => Do P (Instr.loadAt 22 v74) (fun v75 w => Do P (Instr.sliceAt 22 (e7 8) (some (e7 9)) none none) (fun v79 w => CallN P (builtin .copy #[22, 22] 3 #[false, false] #[v79, (e7 1)]) (fun v81 w => Do P (binOp .add 3 (e7 9) v81) (fun v82 w => Do P (Instr.sliceAt 22 (e7 8) (some v82) none none) (fun v86 w => CallN P (builtin .copy #[22, 22] 3 #[false, false] #[v86, v75]) (fun v88 w => Do P (binOp .add 3 v82 v88) (fun v89 w => @Eq (List Nat) [] [] ∧ j7 (upd (upd (upd (upd (upd (upd (upd (upd (upd (upd (upd (upd (upd (upd (upd (upd (upd (upd (upd e7 74 v74) 75 v75) 11 v75) 76 (e7 9)) 77 (e7 8)) 78 (e7 9)) 79 v79) 80 (e7 1)) 81 v81) 82 v82) 9 v82) 83 v82) 84 (e7 8)) 85 v82) 86 v86) 87 v75) 88 v88) 89 v89) 9 v89) w) w) w) w) w) w) w) w) w)

def F59_p2 (P : Program) (K : Value → World → Prop) (e4 : Env) (w : World) : Prop :=
  CallN P (callS (fnv 74) #[(e4 5)]) (fun v60 w => Do P (Instr.sliceAt 22 v60 none (some (e4 5)) (some (e4 5))) (fun v63 w => Do P (Instr.indexAt 101 (e4 0) (Value.int .i64 0)) (fun v66 w => Do P (Instr.loadAt 22 v66) (fun v67 w => CallN P (builtin .copy #[22, 22] 3 #[false, false] #[v63, v67]) (fun v68 w => JoinC P (fun e5 w => K (e5 8) w) (fun j5 => Do P (Instr.sliceAt 101 (e4 0) (some (Value.int .i64 1)) none none) (fun v70 w => CallN P (builtin .len #[101] 3 #[false] #[v70]) (fun v71 w => Loop [73, 74, 75, 11, 76, 77, 78, 79, 80, 81, 82, 9, 83, 84, 85, 86, 87, 88, 89, 90, 72] (upd (upd (upd (upd (upd (upd (upd (upd (upd (upd (upd (upd (upd (upd (upd (upd e4 59 (e4 5)) 60 v60) 61 (e4 5)) 62 (e4 5)) 63 v63) 8 v63) 64 v63) 65 (e4 0)) 66 v66) 67 v67) 68 v68) 9 v68) 69 (e4 0)) 70 v70) 71 v71) 72 (Value.int .i64 0)) w (fun e6 next1 w => Do P (binOp .lss 3 (e6 72) (e6 71)) (fun v73 w => JoinC P (F59_p1 P next1) (fun j6 => Cond v73 (@Eq (List Nat) [] [] ∧ j6 (upd e6 73 v73) w) (@Eq (List Nat) [] [] ∧ j5 (upd e6 73 v73) w))) w)) w) w)) w) w) w) w) w

def F59_p3 (P : Program) (next2 : Env → World → Prop) (e10 : Env) (w : World) : Prop :=
  JoinC P (fun e11 w => Do P (binOp .add 3 (e11 44) (Value.int .i64 1)) (fun v58 w => @Eq (List Nat) [] [] ∧ next2 (upd (upd e11 58 v58) 44 v58) w) w) (fun j9 => Do P (Instr.indexAt 101 (e10 42) (e10 44)) (fun v46 w => Do P (Instr.loadAt 22 v46) (fun v47 w => JoinC P (fun e12 w => CallN P (builtin .len #[22] 3 #[false] #[(e12 7)]) (fun v56 w => Do P (binOp .add 3 (e12 5) v56) (fun v57 w => @Eq (List Nat) [] [] ∧ j9 (upd (upd (upd (upd (upd e12 54 (e12 5)) 55 (e12 7)) 56 v56) 57 v57) 5 v57) w) w) w) (fun j10 => CallN P (builtin .len #[22] 3 #[false] #[v47]) (fun v49 w => Do P (binOp .sub 3 (Value.int .i64 9223372036854775807) (e10 5)) (fun v51 w => Do P (binOp .gtr 3 v49 v51) (fun v52 w => Cond v52 (Do P (Instr.makeInterface 9 (Value.string ⟨#[98, 121, 116, 101, 115, 58, 32, 74, 111, 105, 110, 32, 111, 117, 116, 112, 117, 116, 32, 108, 101, 110, 103, 116, 104, 32, 111, 118, 101, 114, 102, 108, 111, 119]⟩)) (fun _ w => False) w) (@Eq (List Nat) [] [] ∧ j10 (upd (upd (upd (upd (upd (upd (upd (upd e10 46 v46) 47 v47) 7 v47) 48 v47) 49 v49) 50 (e10 5)) 51 v51) 52 v52) w)) w) w) w)) w) w)

def F59_p4 (P : Program) (K : Value → World → Prop) (e2 : Env) (w : World) : Prop :=
  JoinC P (fun e3 w => JoinC P (F59_p2 P K) (fun j4 => CallN P (builtin .len #[101] 3 #[false] #[(e3 0)]) (fun v43 w => Loop [45, 46, 47, 7, 48, 49, 50, 51, 52, 53, 54, 55, 56, 57, 5, 58, 44] (upd (upd (upd e3 42 (e3 0)) 43 v43) 44 (Value.int .i64 0)) w (fun e9 next2 w => Do P (binOp .lss 3 (e9 44) (e9 43)) (fun v45 w => JoinC P (F59_p3 P next2) (fun j8 => Cond v45 (@Eq (List Nat) [] [] ∧ j8 (upd e9 45 v45) w) (@Eq (List Nat) [] [] ∧ j4 (upd e9 45 v45) w))) w)) w)) (fun j3 => CallN P (builtin .len #[22] 3 #[false] #[(e2 1)]) (fun v24 w => Do P (binOp .gtr 3 v24 (Value.int .i64 0)) (fun v25 w => Cond v25 (JoinC P (fun e13 w => CallN P (builtin .len #[22] 3 #[false] #[(e13 1)]) (fun v36 w => CallN P (builtin .len #[101] 3 #[false] #[(e13 0)]) (fun v38 w => Do P (binOp .sub 3 v38 (Value.int .i64 1)) (fun v39 w => Do P (binOp .mul 3 v36 v39) (fun v40 w => Do P (binOp .add 3 (e13 5) v40) (fun v41 w => @Eq (List Nat) [] [] ∧ j3 (upd (upd (upd (upd (upd (upd (upd (upd (upd e13 34 (e13 5)) 35 (e13 1)) 36 v36) 37 (e13 0)) 38 v38) 39 v39) 40 v40) 41 v41) 5 v41) w) w) w) w) w) w) (fun j11 => CallN P (builtin .len #[22] 3 #[false] #[(e2 1)]) (fun v27 w => CallN P (builtin .len #[101] 3 #[false] #[(e2 0)]) (fun v29 w => Do P (binOp .sub 3 v29 (Value.int .i64 1)) (fun v30 w => Do P (binOp .quo 3 (Value.int .i64 9223372036854775807) v30) (fun v31 w => Do P (binOp .geq 3 v27 v31) (fun v32 w => Cond v32 (Do P (Instr.makeInterface 9 (Value.string ⟨#[98, 121, 116, 101, 115, 58, 32, 74, 111, 105, 110, 32, 111, 117, 116, 112, 117, 116, 32, 108, 101, 110, 103, 116, 104, 32, 111, 118, 101, 114, 102, 108, 111, 119]⟩)) (fun _ w => False) w) (@Eq (List Nat) [] [] ∧ j11 (upd (upd (upd (upd (upd (upd (upd (upd (upd (upd (upd e2 5 (Value.int .i64 0)) 23 (e2 1)) 24 v24) 25 v25) 26 (e2 1)) 27 v27) 28 (e2 0)) 29 v29) 30 v30) 31 v31) 32 v32) w)) w) w) w) w) w)) (@Eq (List Nat) [] [] ∧ j3 (upd (upd (upd (upd e2 5 (Value.int .i64 0)) 23 (e2 1)) 24 v24) 25 v25) w)) w) w)

/-- bytes.Join -/
def F59 (P : Program) (K : Value → World → Prop) (v0 v1 : Value) (w : World) : Prop :=
  JoinC P (fun e1 w => JoinC P (F59_p4 P K) (fun j2 => CallN P (builtin .len #[101] 3 #[false] #[(e1 0)]) (fun v17 w => Do P (eqS .eql 3 false true v17 (Value.int .i64 1)) (fun v18 w => Cond v18 (Do P (Instr.indexAt 101 (e1 0) (Value.int .i64 0)) (fun v20 w => Do P (Instr.loadAt 22 v20) (fun v21 w => CallN P (builtin .append #[22, 22] 22 #[true, false] #[(Value.slice none 0 0), v21]) (fun v22 w => K v22 w) w) w) w) (@Eq (List Nat) [] [] ∧ j2 (upd (upd (upd e1 16 (e1 0)) 17 v17) 18 v18) w)) w) w)) (fun j1 => CallN P (builtin .len #[101] 3 #[false] #[v0]) (fun v13 w => Do P (eqS .eql 3 false true v13 (Value.int .i64 0)) (fun v14 w => Cond v14 (Do P (Instr.buildSlice 22 0 #[]) (fun v15 w => K v15 w) w) (@Eq (List Nat) [] [] ∧ j1 (upd (upd (upd (upd (env0 [v0, v1]) 4 (Value.slice none 0 0)) 12 v0) 13 v13) 14 v14) w)) w) w)

def H59 : Hints := []

theorem F59_eq (K : Value → World → Prop) (v0 v1 : Value) (w : World) : F59 Tryd.prog K v0 v1 w = pt Tryd.prog H59 none Tryd.f59.ntmps (bodyOf Tryd.f59) (RetQ Tryd.prog Tryd.f59.results K) (env0 [v0, v1]) [] w := by kernel_rfl

theorem F59_ok : codeOk cvTryd H59 (bodyOf Tryd.f59) = true := by kernel_rfl

theorem F59_has : Tryd.f59.body.isSome = true ∧ Nat.ble 2 Tryd.f59.ntmps = true := ⟨by kernel_rfl, by kernel_rfl⟩

theorem F59_calls {K : Value → World → Prop} {v0 v1 : Value} {w : World} (h : F59 Tryd.prog K v0 v1 w) : Calls Tryd.prog 59 #[v0, v1] w (Returns K) :=
  calls_of_eq (cv := cvTryd) (H := H59) (fn := Tryd.f59) (args := [v0, v1]) mixedTryd Tryd.func59 F59_has F59_ok (F59_eq K v0 v1 w) h

/-- bailee/digest.first -/
def F60 (P : Program) (K : Value → World → Prop)  (w : World) : Prop :=
  Do P (Instr.alloc 111 true (Value.tuple #[])) (fun v0 w => Do P (Instr.build 111 #[(0, (Value.int .u32 1779033703)), (1, (Value.int .u32 3144134277)), (2, (Value.int .u32 1013904242)), (3, (Value.int .u32 2773480762)), (4, (Value.int .u32 1359893119)), (5, (Value.int .u32 2600822924)), (6, (Value.int .u32 528734635)), (7, (Value.int .u32 1541459225))]) (fun v1 w => Do P (Instr.storeAt 111 v0 v1) (fun _ w => RdNow P (cellS 111 v0) w (fun vr0 => K vr0 w)) w) w) w

def H60 : Hints := []

theorem F60_eq (K : Value → World → Prop)  (w : World) : F60 Tryd.prog K  w = pt Tryd.prog H60 none Tryd.f60.ntmps (bodyOf Tryd.f60) (RetQ Tryd.prog Tryd.f60.results K) (env0 []) [] w := by kernel_rfl

theorem F60_ok : codeOk cvTryd H60 (bodyOf Tryd.f60) = true := by kernel_rfl

theorem F60_has : Tryd.f60.body.isSome = true ∧ Nat.ble 0 Tryd.f60.ntmps = true := ⟨by kernel_rfl, by kernel_rfl⟩

theorem F60_calls {K : Value → World → Prop}  {w : World} (h : F60 Tryd.prog K  w) : Calls Tryd.prog 60 #[] w (Returns K) :=
  calls_of_eq (cv := cvTryd) (H := H60) (fn := Tryd.f60) (args := []) mixedTryd Tryd.func60 F60_has F60_ok (F60_eq K  w) h

def F61_p1 (P : Program) (next1 : Env → World → Prop) (e5 : Env) (w : World) : Prop :=
  JoinC P (fun e6 w => Do P (binOp .add 3 (e6 121) (Value.int .i64 1)) (fun v132 w => @Eq (List Nat) [] [] ∧ next1 (upd (upd e6 132 v132) 121 v132) w) w) (fun j5 => Drew (fun w => RdNow P (Instr.indexAt 111 (e5 2) (e5 121)) w (fun v125 => RdNow P (Instr.loadAt 110 v125) w (fun v126 => RdNow P (Instr.indexAt 111 (e5 9) (e5 121)) w (fun v128 => RdNow P (Instr.loadAt 110 v128) w (fun v129 => RdNow P (binOp .add 110 v126 v129) w (fun v130 => RdNow P (Instr.indexAt 111 (e5 2) (e5 121)) w (fun v131 => Do P (Instr.storeAt 110 v131 v130) (fun _ w => @Eq (List Nat) [] [] ∧ j5 (upd (upd (upd (upd (upd (upd (upd (upd (upd (upd e5 123 (e5 121)) 15 (e5 121)) 124 (e5 121)) 125 v125) 126 v126) 127 (e5 121)) 128 v128) 129 v129) 130 v130) 131 v131) w) w))))))) w)

def F61_p2 (P : Program) (K : Value → World → Prop) (e2 : Env) (w : World) : Prop :=
  JoinC P (fun e3 w => Do P (Instr.loadAt 111 (e3 2)) (fun v133 w => Do P (Instr.storeAt 111 (e3 4) v133) (fun _ w => RdNow P (cellS 111 (e3 4)) w (fun vr0 => K vr0 w)) w) w) (fun j3 => Loop [122, 123, 15, 124, 125, 126, 127, 128, 129, 130, 131, 132, 121] (upd e2 121 (Value.int .i64 0)) w (fun e4 next1 w => Do P (binOp .lss 3 (e4 121) (Value.int .i64 8)) (fun v122 w => JoinC P (F61_p1 P next1) (fun j4 => Cond v122 (@Eq (List Nat) [] [] ∧ j4 (upd e4 122 v122) w) (@Eq (List Nat) [] [] ∧ j3 (upd e4 122 v122) w))) w))

def F61_p3 (P : Program) (j7 : Env → World → Prop) (e10 : Env) (w : World) : Prop :=
  Drew (fun w => Draw (fun S1 w => RdS P (S1 0) (Instr.indexAt 111 (e10 9) (Value.int .i64 7)) (fun v56 => RdS P (S1 0) (Instr.loadAt 110 v56) (fun v57 => RdS P (S1 0) (Instr.indexAt 111 (e10 9) (Value.int .i64 4)) (fun v58 => RdNow P (Instr.loadAt 110 v58) w (fun v59 => RdS P (S1 0) (Instr.indexAt 111 (e10 9) (Value.int .i64 4)) (fun v62 => RdS P (S1 0) (Instr.loadAt 110 v62) (fun v63 => RdS P (S1 0) (Instr.indexAt 111 (e10 9) (Value.int .i64 5)) (fun v64 => RdS P (S1 0) (Instr.loadAt 110 v64) (fun v65 => RdS P (S1 0) (binOp .and 110 v63 v65) (fun v66 => RdS P (S1 0) (Instr.indexAt 111 (e10 9) (Value.int .i64 4)) (fun v67 => RdS P (S1 0) (Instr.loadAt 110 v67) (fun v68 => RdS P (S1 0) (Op.unary .xor v68) (fun v69 => RdS P (S1 0) (Instr.indexAt 111 (e10 9) (Value.int .i64 6)) (fun v70 => RdS P (S1 0) (Instr.loadAt 110 v70) (fun v71 => RdS P (S1 0) (binOp .and 110 v69 v71) (fun v72 => RdS P (S1 0) (binOp .xor 110 v66 v72) (fun v73 => CallN P (callS (fnv 76) #[v59, (Value.int .i64 6), (Value.int .i64 11), (Value.int .i64 25)]) (fun v60 w => S1 0 w ∧ (RdNow P (binOp .add 110 v57 v60) w (fun v61 => RdNow P (binOp .add 110 v61 v73) w (fun v74 => RdNow P (binOp .add 110 v74 (e10 11)) w (fun v76 => RdNow P (binOp .add 110 v76 (e10 12)) w (fun v78 => Drew (fun w => Draw (fun S2 w => RdS P (S2 0) (Instr.indexAt 111 (e10 9) (Value.int .i64 0)) (fun v79 => RdNow P (Instr.loadAt 110 v79) w (fun v80 => RdS P (S2 0) (Instr.indexAt 111 (e10 9) (Value.int .i64 0)) (fun v82 => RdS P (S2 0) (Instr.loadAt 110 v82) (fun v83 => RdS P (S2 0) (Instr.indexAt 111 (e10 9) (Value.int .i64 1)) (fun v84 => RdS P (S2 0) (Instr.loadAt 110 v84) (fun v85 => RdS P (S2 0) (binOp .and 110 v83 v85) (fun v86 => RdS P (S2 0) (Instr.indexAt 111 (e10 9) (Value.int .i64 0)) (fun v87 => RdS P (S2 0) (Instr.loadAt 110 v87) (fun v88 => RdS P (S2 0) (Instr.indexAt 111 (e10 9) (Value.int .i64 2)) (fun v89 => RdS P (S2 0) (Instr.loadAt 110 v89) (fun v90 => RdS P (S2 0) (binOp .and 110 v88 v90) (fun v91 => RdS P (S2 0) (binOp .xor 110 v86 v91) (fun v92 => RdS P (S2 0) (Instr.indexAt 111 (e10 9) (Value.int .i64 1)) (fun v93 => RdS P (S2 0) (Instr.loadAt 110 v93) (fun v94 => RdS P (S2 0) (Instr.indexAt 111 (e10 9) (Value.int .i64 2)) (fun v95 => RdS P (S2 0) (Instr.loadAt 110 v95) (fun v96 => RdS P (S2 0) (binOp .and 110 v94 v96) (fun v97 => RdS P (S2 0) (binOp .xor 110 v92 v97) (fun v98 => CallN P (callS (fnv 76) #[v80, (Value.int .i64 2), (Value.int .i64 13), (Value.int .i64 22)]) (fun v81 w => S2 0 w ∧ (RdNow P (binOp .add 110 v81 v98) w (fun v99 => Do P (binOp .add 110 v78 v99) (fun v102 w => Do P (Instr.indexAt 111 (e10 9) (Value.int .i64 0)) (fun v103 w => Do P (Instr.loadAt 110 v103) (fun v104 w => Do P (Instr.indexAt 111 (e10 9) (Value.int .i64 1)) (fun v105 w => Do P (Instr.loadAt 110 v105) (fun v106 w => Do P (Instr.indexAt 111 (e10 9) (Value.int .i64 2)) (fun v107 w => Do P (Instr.loadAt 110 v107) (fun v108 w => Do P (Instr.indexAt 111 (e10 9) (Value.int .i64 3)) (fun v109 w => Do P (Instr.loadAt 110 v109) (fun v110 w => Do P (binOp .add 110 v110 v78) (fun v112 w => Do P (Instr.indexAt 111 (e10 9) (Value.int .i64 4)) (fun v113 w => Do P (Instr.loadAt 110 v113) (fun v114 w => Do P (Instr.indexAt 111 (e10 9) (Value.int .i64 5)) (fun v115 w => Do P (Instr.loadAt 110 v115) (fun v116 w => Do P (Instr.indexAt 111 (e10 9) (Value.int .i64 6)) (fun v117 w => Do P (Instr.loadAt 110 v117) (fun v118 w => Do P (Instr.build 111 #[(0, v102), (1, v104), (2, v106), (3, v108), (4, v112), (5, v114), (6, v116), (7, v118)]) (fun v119 w => Do P (Instr.storeAt 111 (e10 9) v119) (fun _ w => @Eq (List Nat) [] [] ∧ j7 (upd (upd (upd (upd (upd (upd (upd (upd (upd (upd (upd (upd (upd (upd (upd (upd (upd (upd (upd (upd (upd (upd (upd (upd (upd (upd (upd (upd (upd (upd (upd (upd (upd (upd (upd (upd (upd (upd (upd (upd (upd (upd (upd (upd (upd (upd (upd (upd (upd (upd (upd (upd (upd (upd (upd (upd (upd (upd (upd (upd (upd (upd (upd (upd (upd (upd e10 56 v56) 57 v57) 58 v58) 59 v59) 62 v62) 63 v63) 64 v64) 65 v65) 66 v66) 67 v67) 68 v68) 69 v69) 70 v70) 71 v71) 72 v72) 73 v73) 75 (e10 11)) 77 (e10 12)) 60 v60) 61 v61) 74 v74) 76 v76) 78 v78) 13 v78) 79 v79) 80 v80) 82 v82) 83 v83) 84 v84) 85 v85) 86 v86) 87 v87) 88 v88) 89 v89) 90 v90) 91 v91) 92 v92) 93 v93) 94 v94) 95 v95) 96 v96) 97 v97) 98 v98) 81 v81) 99 v99) 14 v99) 100 v78) 101 v99) 102 v102) 103 v103) 104 v104) 105 v105) 106 v106) 107 v107) 108 v108) 109 v109) 110 v110) 111 v78) 112 v112) 113 v113) 114 v114) 115 v115) 116 v116) 117 v117) 118 v118) 119 v119) w) w) w) w) w) w) w) w) w) w) w) w) w) w) w) w) w) w) w))) w)))))))))))))))))))) w) w)))))) w))))))))))))))))) w) w

def F61_p4 (P : Program) (next2 : Env → World → Prop) (e8 : Env) (w : World) : Prop :=
  JoinC P (fun e9 w => Do P (binOp .add 3 (e9 44) (Value.int .i64 1)) (fun v120 w => @Eq (List Nat) [] [] ∧ next2 (upd (upd e9 120 v120) 44 v120) w) w) (fun j7 => Do P (Instr.index 112 (e8 43) (e8 44)) (fun v47 w => Do P (binOp .rem 3 (e8 44) (Value.int .i64 16)) (fun v49 w => Do P (Instr.indexAt 148 (e8 5) v49) (fun v50 w => Do P (Instr.loadAt 110 v50) (fun v51 w => JoinC P (F61_p3 P j7) (fun j8 => Do P (binOp .geq 3 (e8 44) (Value.int .i64 16)) (fun v53 w => Cond v53 (CallN P (callS (fnv 75) #[(e8 5), (e8 44)]) (fun v55 w => @Eq (List Nat) [] [] ∧ j8 (upd (upd (upd (upd (upd (upd (upd (upd (upd (upd (upd (upd (upd (upd e8 46 (e8 44)) 47 v47) 10 (e8 44)) 11 v47) 48 (e8 44)) 49 v49) 50 v50) 51 v51) 12 v51) 52 (e8 44)) 53 v53) 54 (e8 44)) 55 v55) 12 v55) w) w) (@Eq (List Nat) [] [] ∧ j8 (upd (upd (upd (upd (upd (upd (upd (upd (upd (upd (upd e8 46 (e8 44)) 47 v47) 10 (e8 44)) 11 v47) 48 (e8 44)) 49 v49) 50 v50) 51 v51) 12 v51) 52 (e8 44)) 53 v53) w)) w)) w) w) w) w)

def F61_p5 (P : Program) (K : Value → World → Prop) (e1 : Env) (w : World) : Prop :=
  Do P (Instr.loadAt 111 (e1 2)) (fun v42 w => Do P (Instr.alloc 111 true (Value.tuple #[])) (fun v9 w => Do P (Instr.storeAt 111 v9 v42) (fun _ w => JoinC P (F61_p2 P K) (fun j2 => Do P (Instr.loadAt 112 (Value.pointer (some ⟨0, 0, none⟩))) (fun v43 w => Loop [45, 46, 47, 10, 11, 48, 49, 50, 51, 12, 52, 53, 54, 55, 56, 57, 58, 59, 60, 61, 62, 63, 64, 65, 66, 67, 68, 69, 70, 71, 72, 73, 74, 75, 76, 77, 78, 13, 79, 80, 81, 82, 83, 84, 85, 86, 87, 88, 89, 90, 91, 92, 93, 94, 95, 96, 97, 98, 99, 14, 100, 101, 102, 103, 104, 105, 106, 107, 108, 109, 110, 111, 112, 113, 114, 115, 116, 117, 118, 119, 120, 44] (upd (upd (upd (upd e1 42 v42) 9 v9) 43 v43) 44 (Value.int .i64 0)) w (fun e7 next2 w => Do P (binOp .lss 3 (e7 44) (Value.int .i64 64)) (fun v45 w => JoinC P (F61_p4 P next2) (fun j6 => Cond v45 (@Eq (List Nat) [] [] ∧ j6 (upd e7 45 v45) w) (@Eq (List Nat) [] [] ∧ j2 (upd e7 45 v45) w))) w)) w)) w) w) w

def F61_p6 (P : Program) (next4 : Env → World → Prop) (e15 : Env) (w : World) : Prop :=
  JoinC P (fun e16 w => Do P (binOp .add 3 (e16 27) (Value.int .i64 1)) (fun v40 w => @Eq (List Nat) [] [] ∧ next4 (upd (upd e16 40 v40) 27 v40) w) w) (fun j12 => Do P (Instr.indexAt 22 (e15 25) (e15 27)) (fun v29 w => Do P (Instr.loadAt 5 v29) (fun v30 w => Do P (Instr.indexAt 148 (e15 5) (e15 6)) (fun v33 w => Do P (Instr.loadAt 110 v33) (fun v34 w => Do P (binOp .shl 110 v34 (Value.int .u64 8)) (fun v35 w => Do P (convert 5 110 v30) (fun v37 w => Do P (binOp .or 110 v35 v37) (fun v38 w => Do P (Instr.indexAt 148 (e15 5) (e15 6)) (fun v39 w => Do P (Instr.storeAt 110 v39 v38) (fun _ w => @Eq (List Nat) [] [] ∧ j12 (upd (upd (upd (upd (upd (upd (upd (upd (upd (upd (upd (upd e15 29 v29) 30 v30) 8 v30) 31 (e15 6)) 32 (e15 6)) 33 v33) 34 v34) 35 v35) 36 v30) 37 v37) 38 v38) 39 v39) w) w) w) w) w) w) w) w) w) w)

def F61_p7 (P : Program) (next3 : Env → World → Prop) (e12 : Env) (w : World) : Prop :=
  JoinC P (fun e13 w => Do P (binOp .add 3 (e13 16) (Value.int .i64 1)) (fun v41 w => @Eq (List Nat) [] [] ∧ next3 (upd (upd e13 41 v41) 16 v41) w) w) (fun j10 => Do P (binOp .mul 3 (Value.int .i64 4) (e12 16)) (fun v21 w => Do P (binOp .mul 3 (Value.int .i64 4) (e12 16)) (fun v23 w => Do P (binOp .add 3 v23 (Value.int .i64 4)) (fun v24 w => Do P (Instr.sliceAt 22 (e12 1) (some v21) (some v24) none) (fun v25 w => CallN P (builtin .len #[22] 3 #[false] #[v25]) (fun v26 w => Loop [28, 29, 30, 8, 31, 32, 33, 34, 35, 36, 37, 38, 39, 40, 27] (upd (upd (upd (upd (upd (upd (upd (upd (upd (upd (upd e12 18 (e12 16)) 6 (e12 16)) 19 (e12 1)) 20 (e12 16)) 21 v21) 22 (e12 16)) 23 v23) 24 v24) 25 v25) 26 v26) 27 (Value.int .i64 0)) w (fun e14 next4 w => Do P (binOp .lss 3 (e14 27) (e14 26)) (fun v28 w => JoinC P (F61_p6 P next4) (fun j11 => Cond v28 (@Eq (List Nat) [] [] ∧ j11 (upd e14 28 v28) w) (@Eq (List Nat) [] [] ∧ j10 (upd e14 28 v28) w))) w)) w) w) w) w) w)

/-- bailee/digest.take -/
def F61 (P : Program) (K : Value → World → Prop) (v0 v1 : Value) (w : World) : Prop :=
  Do P (Instr.box 111 v0) (fun v2 w => Do P (Instr.alloc 111 true (Value.tuple #[])) (fun v4 w => Do P (Instr.alloc 148 true (Value.tuple #[])) (fun v5 w => JoinC P (F61_p5 P K) (fun j1 => Loop [17, 18, 6, 19, 20, 21, 22, 23, 24, 25, 26, 27, 28, 29, 30, 8, 31, 32, 33, 34, 35, 36, 37, 38, 39, 40, 41, 16] (upd (upd (upd (upd (env0 [v0, v1]) 2 v2) 4 v4) 5 v5) 16 (Value.int .i64 0)) w (fun e11 next3 w => Do P (binOp .lss 3 (e11 16) (Value.int .i64 16)) (fun v17 w => JoinC P (F61_p7 P next3) (fun j9 => Cond v17 (@Eq (List Nat) [] [] ∧ j9 (upd e11 17 v17) w) (@Eq (List Nat) [] [] ∧ j1 (upd e11 17 v17) w))) w))) w) w) w

def H61 : Hints := [(18, true, false, [0, 0, 0, 0, 0, 0, 0, 0, 0, 0, 0, 0, 0, 0, 0, 0, 0, 0, 0, 0, 0, 0, 0, 0], .rd 0 false 0 (.rd 1 false 0 (.rd 2 false 0 (.rd 3 true 0 (.rd 6 false 0 (.rd 7 false 0 (.rd 8 false 0 (.rd 9 false 0 (.rd 10 false 0 (.rd 11 false 0 (.rd 12 false 0 (.rd 13 false 0 (.rd 14 false 0 (.rd 15 false 0 (.rd 16 false 0 (.rd 17 false 0 (.rd 19 true 0 (.rd 21 true 0 (.ch 4 [0] (.rd 5 true 0 (.rd 18 true 0 (.rd 20 true 0 (.rd 22 true 0 (.rd 23 true 0 (.done))))))))))))))))))))))))), (19, true, false, [0, 0, 0, 0, 0, 0, 0, 0, 0, 0, 0, 0, 0, 0, 0, 0, 0, 0, 0, 0, 0, 0], .rd 0 false 0 (.rd 1 true 0 (.rd 3 false 0 (.rd 4 false 0 (.rd 5 false 0 (.rd 6 false 0 (.rd 7 false 0 (.rd 8 false 0 (.rd 9 false 0 (.rd 10 false 0 (.rd 11 false 0 (.rd 12 false 0 (.rd 13 false 0 (.rd 14 false 0 (.rd 15 false 0 (.rd 16 false 0 (.rd 17 false 0 (.rd 18 false 0 (.rd 19 false 0 (.ch 2 [0] (.rd 20 true 0 (.rd 21 true 0 (.done))))))))))))))))))))))), (25, false, false, [], .rd 0 true 0 (.rd 1 true 0 (.rd 2 true 0 (.rd 3 true 0 (.rd 4 true 0 (.rd 5 true 0 (.rd 6 true 0 (.rd 7 true 0 (.ch 8 [] (.done))))))))))]

theorem F61_eq (K : Value → World → Prop) (v0 v1 : Value) (w : World) : F61 Tryd.prog K v0 v1 w = pt Tryd.prog H61 none Tryd.f61.ntmps (bodyOf Tryd.f61) (RetQ Tryd.prog Tryd.f61.results K) (env0 [v0, v1]) [] w := by kernel_rfl

theorem F61_ok : codeOk cvTryd H61 (bodyOf Tryd.f61) = true := by kernel_rfl

theorem F61_has : Tryd.f61.body.isSome = true ∧ Nat.ble 2 Tryd.f61.ntmps = true := ⟨by kernel_rfl, by kernel_rfl⟩

theorem F61_calls {K : Value → World → Prop} {v0 v1 : Value} {w : World} (h : F61 Tryd.prog K v0 v1 w) : Calls Tryd.prog 61 #[v0, v1] w (Returns K) :=
  calls_of_eq (cv := cvTryd) (H := H61) (fn := Tryd.f61) (args := [v0, v1]) mixedTryd Tryd.func61 F61_has F61_ok (F61_eq K v0 v1 w) h

end Go.Px
end
section
set_option linter.unusedVariables false
set_option linter.unusedSimpArgs false
set_option linter.unusedVariables false
set_option maxRecDepth 20000
namespace Go.Px
open Go Go.Proofs
def F62_p1 (P : Program) (K : Value → World → Prop) (j1 : Env → World → Prop) (e2 : Env) (next1 : Env → World → Prop) (w : World) : Prop :=
  Do P (binOp .lss 3 (e2 8) (e2 7)) (fun v9 w => JoinC P (fun e3 w => JoinC P (fun e4 w => Do P (binOp .add 3 (e4 8) (Value.int .i64 1)) (fun v18 w => @Eq (List Nat) [] [] ∧ next1 (upd (upd e4 18 v18) 8 v18) w) w) (fun j3 => Do P (Instr.indexAt 38 (e3 0) (e3 8)) (fun v14 w => Do P (Instr.loadAt 37 v14) (fun v15 w => CallN P (callS (e3 1) #[v15]) (fun v16 w => Cond v16 (K (e3 8) w) (@Eq (List Nat) [] [] ∧ j3 (upd (upd (upd (upd (upd (upd (upd (upd e3 10 (e3 8)) 5 (e3 8)) 11 (e3 1)) 12 (e3 0)) 13 (e3 8)) 14 v14) 15 v15) 16 v16) w)) w) w) w)) (fun j2 => Cond v9 (@Eq (List Nat) [] [] ∧ j2 (upd e2 9 v9) w) (@Eq (List Nat) [] [] ∧ j1 (upd e2 9 v9) w))) w

/-- slices.IndexFunc[[]bailee/audit.Target,bailee/audit.Target] -/
def F62 (P : Program) (K : Value → World → Prop) (v0 v1 : Value) (w : World) : Prop :=
  JoinC P (fun e1 w => K (Value.int .i64 (-1)) w) (fun j1 => CallN P (builtin .len #[38] 3 #[false] #[v0]) (fun v7 w => Loop [9, 10, 5, 11, 12, 13, 14, 15, 16, 17, 4, 18, 8] (upd (upd (upd (upd (env0 [v0, v1]) 4 (Value.int .i64 0)) 6 v0) 7 v7) 8 (Value.int .i64 0)) w (F62_p1 P K j1)) w)

def H62 : Hints := []

theorem F62_eq (K : Value → World → Prop) (v0 v1 : Value) (w : World) : F62 Tryd.prog K v0 v1 w = pt Tryd.prog H62 none Tryd.f62.ntmps (bodyOf Tryd.f62) (RetQ Tryd.prog Tryd.f62.results K) (env0 [v0, v1]) [] w := by kernel_rfl

theorem F62_ok : codeOk cvTryd H62 (bodyOf Tryd.f62) = true := by kernel_rfl

theorem F62_has : Tryd.f62.body.isSome = true ∧ Nat.ble 2 Tryd.f62.ntmps = true := ⟨by kernel_rfl, by kernel_rfl⟩

theorem F62_calls {K : Value → World → Prop} {v0 v1 : Value} {w : World} (h : F62 Tryd.prog K v0 v1 w) : Calls Tryd.prog 62 #[v0, v1] w (Returns K) :=
  calls_of_eq (cv := cvTryd) (H := H62) (fn := Tryd.f62) (args := [v0, v1]) mixedTryd Tryd.func62 F62_has F62_ok (F62_eq K v0 v1 w) h

def F63_p1 (P : Program) (next1 : Env → World → Prop) (e3 : Env) (w : World) : Prop :=
  Drew (fun w => Draw (fun S1 w => RdNow P (Instr.loadAt 3 (e3 1)) w (fun v6 => RdNow P (Instr.loadAt 3 (e3 1)) w (fun v7 => RdNow P (binOp .quo 3 v7 (Value.int .i64 2)) w (fun v8 => RdNow P (binOp .sub 3 v6 v8) w (fun v9 => RdS P (S1 1) (Instr.loadAt 3 (e3 2)) (fun v10 => RdS P (S1 1) (binOp .quo 3 v10 (Value.int .i64 2)) (fun v11 => Do P (Instr.storeAt 3 (e3 1) v9) (fun _ w => S1 1 w ∧ (Do P (Instr.storeAt 3 (e3 2) v11) (fun _ w => @Eq (List Nat) [] [] ∧ next1 (upd (upd (upd (upd (upd (upd e3 6 v6) 7 v7) 8 v8) 9 v9) 10 v10) 11 v11) w) w)) w))))))) w) w

def F63_p2 (P : Program) (next1 : Env → World → Prop) (K : Value → World → Prop) (e2 : Env) (w : World) : Prop :=
  JoinC P (F63_p1 P next1) (fun j2 => Do P (Instr.loadAt 3 (e2 2)) (fun v13 w => Do P (Instr.loadAt 3 (e2 2)) (fun v14 w => Do P (binOp .xor 3 v14 (Value.int .i64 1)) (fun v15 w => Do P (Instr.loadAt 3 (e2 1)) (fun v16 w => Do P (binOp .lss 3 v15 v16) (fun v17 w => CallN P (callS (e2 0) #[v13, v17]) (fun v18 w => Do P (Op.unary .not v18) (fun v19 w => Cond v19 (K (Value.tuple #[]) w) (@Eq (List Nat) [] [] ∧ j2 (upd (upd (upd (upd (upd (upd (upd (upd e2 12 (e2 0)) 13 v13) 14 v14) 15 v15) 16 v16) 17 v17) 18 v18) 19 v19) w)) w) w) w) w) w) w) w)

/-- bailee/proof.steps$1 -/
def F63 (P : Program) (K : Value → World → Prop) (v0 v1 v2 : Value) (w : World) : Prop :=
  Loop [4, 5, 12, 13, 14, 15, 16, 17, 18, 19, 6, 7, 8, 9, 10, 11] (env0 [v0, v1, v2]) w (fun e1 next1 w => JoinC P (F63_p2 P next1 K) (fun j1 => Do P (Instr.loadAt 3 (e1 1)) (fun v4 w => Do P (binOp .gtr 3 v4 (Value.int .i64 1)) (fun v5 w => Cond v5 (@Eq (List Nat) [] [] ∧ j1 (upd (upd e1 4 v4) 5 v5) w) (K (Value.tuple #[]) w)) w) w))

def H63 : Hints := [(1, true, false, [0, 0, 0, 0, 1, 1, 0, 0], .rd 0 true 0 (.rd 1 true 0 (.rd 2 true 0 (.rd 3 true 0 (.rd 4 false 1 (.rd 5 false 1 (.ch 6 [1] (.ch 7 [] (.done)))))))))]

theorem F63_eq (K : Value → World → Prop) (v0 v1 v2 : Value) (w : World) : F63 Tryd.prog K v0 v1 v2 w = pt Tryd.prog H63 none Tryd.f63.ntmps (bodyOf Tryd.f63) (RetQ Tryd.prog Tryd.f63.results K) (env0 [v0, v1, v2]) [] w := by kernel_rfl

theorem F63_ok : codeOk cvTryd H63 (bodyOf Tryd.f63) = true := by kernel_rfl

theorem F63_has : Tryd.f63.body.isSome = true ∧ Nat.ble 3 Tryd.f63.ntmps = true := ⟨by kernel_rfl, by kernel_rfl⟩

theorem F63_calls {K : Value → World → Prop} {v0 v1 v2 : Value} {w : World} (h : F63 Tryd.prog K v0 v1 v2 w) : Calls Tryd.prog 63 #[v0, v1, v2] w (Returns K) :=
  calls_of_eq (cv := cvTryd) (H := H63) (fn := Tryd.f63) (args := [v0, v1, v2]) mixedTryd Tryd.func63 F63_has F63_ok (F63_eq K v0 v1 v2 w) h

/-- slices.Collect[[]byte] -/
def F64 (P : Program) (K : Value → World → Prop) (v0 : Value) (w : World) : Prop :=
  CallN P (callS (fnv 77) #[(Value.slice none 0 0), v0]) (fun v4 w => K v4 w) w

def H64 : Hints := []

theorem F64_eq (K : Value → World → Prop) (v0 : Value) (w : World) : F64 Tryd.prog K v0 w = pt Tryd.prog H64 none Tryd.f64.ntmps (bodyOf Tryd.f64) (RetQ Tryd.prog Tryd.f64.results K) (env0 [v0]) [] w := by kernel_rfl

theorem F64_ok : codeOk cvTryd H64 (bodyOf Tryd.f64) = true := by kernel_rfl

theorem F64_has : Tryd.f64.body.isSome = true ∧ Nat.ble 1 Tryd.f64.ntmps = true := ⟨by kernel_rfl, by kernel_rfl⟩

theorem F64_calls {K : Value → World → Prop} {v0 : Value} {w : World} (h : F64 Tryd.prog K v0 w) : Calls Tryd.prog 64 #[v0] w (Returns K) :=
  calls_of_eq (cv := cvTryd) (H := H64) (fn := Tryd.f64) (args := [v0]) mixedTryd Tryd.func64 F64_has F64_ok (F64_eq K v0 w) h

/-- slices.Chunk[[]byte,byte] -/
def F65 (P : Program) (K : Value → World → Prop) (v0 v1 : Value) (w : World) : Prop :=
  Do P (Instr.box 22 v0) (fun v2 w => Do P (Instr.box 3 v1) (fun v3 w => JoinC P (fun e1 w => Do P (Instr.makeFunc (Fn.func 78) #[] #[(e1 2), (e1 3)]) (fun v8 w => K v8 w) w) (fun j1 => Do P (Instr.loadAt 3 v3) (fun v5 w => Do P (binOp .lss 3 v5 (Value.int .i64 1)) (fun v6 w => Cond v6 (Do P (Instr.makeInterface 9 (Value.string ⟨#[99, 97, 110, 110, 111, 116, 32, 98, 101, 32, 108, 101, 115, 115, 32, 116, 104, 97, 110, 32, 49]⟩)) (fun _ w => False) w) (@Eq (List Nat) [] [] ∧ j1 (upd (upd (upd (upd (upd (env0 [v0, v1]) 2 v2) 3 v3) 4 Value.nilFunc) 5 v5) 6 v6) w)) w) w)) w) w

def H65 : Hints := []

theorem F65_eq (K : Value → World → Prop) (v0 v1 : Value) (w : World) : F65 Tryd.prog K v0 v1 w = pt Tryd.prog H65 none Tryd.f65.ntmps (bodyOf Tryd.f65) (RetQ Tryd.prog Tryd.f65.results K) (env0 [v0, v1]) [] w := by kernel_rfl

theorem F65_ok : codeOk cvTryd H65 (bodyOf Tryd.f65) = true := by kernel_rfl

theorem F65_has : Tryd.f65.body.isSome = true ∧ Nat.ble 2 Tryd.f65.ntmps = true := ⟨by kernel_rfl, by kernel_rfl⟩

theorem F65_calls {K : Value → World → Prop} {v0 v1 : Value} {w : World} (h : F65 Tryd.prog K v0 v1 w) : Calls Tryd.prog 65 #[v0, v1] w (Returns K) :=
  calls_of_eq (cv := cvTryd) (H := H65) (fn := Tryd.f65) (args := [v0, v1]) mixedTryd Tryd.func65 F65_has F65_ok (F65_eq K v0 v1 w) h

def F66_p1 (P : Program) (K : Value → World → Prop) (j1 : Env → World → Prop) (e2 : Env) (next1 : Env → World → Prop) (w : World) : Prop :=
  Do P (binOp .lss 3 (e2 8) (e2 7)) (fun v9 w => JoinC P (fun e3 w => JoinC P (fun e4 w => Do P (binOp .add 3 (e4 8) (Value.int .i64 1)) (fun v18 w => @Eq (List Nat) [] [] ∧ next1 (upd (upd e4 18 v18) 8 v18) w) w) (fun j3 => Do P (Instr.indexAt 83 (e3 0) (e3 8)) (fun v14 w => Do P (Instr.loadAt 96 v14) (fun v15 w => CallN P (callS (e3 1) #[v15]) (fun v16 w => Cond v16 (K (e3 8) w) (@Eq (List Nat) [] [] ∧ j3 (upd (upd (upd (upd (upd (upd (upd (upd e3 10 (e3 8)) 5 (e3 8)) 11 (e3 1)) 12 (e3 0)) 13 (e3 8)) 14 v14) 15 v15) 16 v16) w)) w) w) w)) (fun j2 => Cond v9 (@Eq (List Nat) [] [] ∧ j2 (upd e2 9 v9) w) (@Eq (List Nat) [] [] ∧ j1 (upd e2 9 v9) w))) w

/-- slices.IndexFunc[[]bailee/audit.question,bailee/audit.question] -/
def F66 (P : Program) (K : Value → World → Prop) (v0 v1 : Value) (w : World) : Prop :=
  JoinC P (fun e1 w => K (Value.int .i64 (-1)) w) (fun j1 => CallN P (builtin .len #[83] 3 #[false] #[v0]) (fun v7 w => Loop [9, 10, 5, 11, 12, 13, 14, 15, 16, 17, 4, 18, 8] (upd (upd (upd (upd (env0 [v0, v1]) 4 (Value.int .i64 0)) 6 v0) 7 v7) 8 (Value.int .i64 0)) w (F66_p1 P K j1)) w)

def H66 : Hints := []

theorem F66_eq (K : Value → World → Prop) (v0 v1 : Value) (w : World) : F66 Tryd.prog K v0 v1 w = pt Tryd.prog H66 none Tryd.f66.ntmps (bodyOf Tryd.f66) (RetQ Tryd.prog Tryd.f66.results K) (env0 [v0, v1]) [] w := by kernel_rfl

theorem F66_ok : codeOk cvTryd H66 (bodyOf Tryd.f66) = true := by kernel_rfl

theorem F66_has : Tryd.f66.body.isSome = true ∧ Nat.ble 2 Tryd.f66.ntmps = true := ⟨by kernel_rfl, by kernel_rfl⟩

theorem F66_calls {K : Value → World → Prop} {v0 v1 : Value} {w : World} (h : F66 Tryd.prog K v0 v1 w) : Calls Tryd.prog 66 #[v0, v1] w (Returns K) :=
  calls_of_eq (cv := cvTryd) (H := H66) (fn := Tryd.f66) (args := [v0, v1]) mixedTryd Tryd.func66 F66_has F66_ok (F66_eq K v0 v1 w) h

def F67_p1 (P : Program) (K : Value → World → Prop) (e1 : Env) (w : World) : Prop :=
  CallN P (builtin .len #[83] 3 #[false] #[(e1 0)]) (fun v19 w => Drew (fun w => RdNow P (Instr.sliceAt 83 (e1 0) none (some (e1 1)) none) w (fun v22 => RdNow P (Instr.sliceAt 83 (e1 0) (some (e1 2)) none none) w (fun v25 => CallN P (builtin .append #[83, 83] 83 #[false, false] #[v22, v25]) (fun v26 w => CallN P (builtin .len #[83] 3 #[false] #[v26]) (fun v29 w => Do P (Instr.sliceAt 83 v26 (some v29) (some v19) none) (fun v31 w => CallN P (builtin .clear #[83] 0 #[false] #[v31]) (fun _ w => K v26 w) w) w) w) w))) w) w

/-- slices.Delete[[]bailee/audit.question,bailee/audit.question] -/
def F67 (P : Program) (K : Value → World → Prop) (v0 v1 v2 : Value) (w : World) : Prop :=
  CallN P (builtin .len #[83] 3 #[false] #[v0]) (fun v12 w => Do P (Instr.sliceAt 83 v0 (some v1) (some v2) (some v12)) (fun v13 w => JoinC P (F67_p1 P K) (fun j1 => Do P (eqS .eql 3 false false v1 v2) (fun v16 w => Cond v16 (K v0 w) (@Eq (List Nat) [] [] ∧ j1 (upd (upd (upd (upd (upd (upd (upd (upd (upd (upd (env0 [v0, v1, v2]) 6 (Value.slice none 0 0)) 8 v0) 9 v1) 10 v2) 11 v0) 12 v12) 13 v13) 14 v1) 15 v2) 16 v16) w)) w)) w) w

def H67 : Hints := [(5, false, false, [], .rd 0 true 0 (.rd 1 true 0 (.rd 2 true 0 (.rd 3 true 0 (.rd 4 true 0 (.rd 5 true 0 (.ch 6 [] (.rd 7 true 0 (.done)))))))))]

theorem F67_eq (K : Value → World → Prop) (v0 v1 v2 : Value) (w : World) : F67 Tryd.prog K v0 v1 v2 w = pt Tryd.prog H67 none Tryd.f67.ntmps (bodyOf Tryd.f67) (RetQ Tryd.prog Tryd.f67.results K) (env0 [v0, v1, v2]) [] w := by kernel_rfl

theorem F67_ok : codeOk cvTryd H67 (bodyOf Tryd.f67) = true := by kernel_rfl

theorem F67_has : Tryd.f67.body.isSome = true ∧ Nat.ble 3 Tryd.f67.ntmps = true := ⟨by kernel_rfl, by kernel_rfl⟩

theorem F67_calls {K : Value → World → Prop} {v0 v1 v2 : Value} {w : World} (h : F67 Tryd.prog K v0 v1 v2 w) : Calls Tryd.prog 67 #[v0, v1, v2] w (Returns K) :=
  calls_of_eq (cv := cvTryd) (H := H67) (fn := Tryd.f67) (args := [v0, v1, v2]) mixedTryd Tryd.func67 F67_has F67_ok (F67_eq K v0 v1 v2 w) h

/-- bailee/baileeref06.node -/
def F68 (P : Program) (K : Value → World → Prop) (v0 v1 : Value) (w : World) : Prop :=
  Do P (Instr.box 28 v0) (fun v2 w => Do P (Instr.box 28 v1) (fun v3 w => Do P (Instr.alloc 28 true (Value.tuple #[])) (fun v4 w => Drew (fun w => Draw (fun S1 w => RdS P (S1 0) (Instr.sliceAt 28 v2 none none none) (fun v5 => RdS P (S1 0) (convert 22 9 v5) (fun v6 => RdS P (S1 0) (binOp .add 9 (Value.string ⟨#[1]⟩) v6) (fun v7 => RdS P (S1 0) (Instr.sliceAt 28 v3 none none none) (fun v8 => RdS P (S1 0) (convert 22 9 v8) (fun v9 => RdNow P (binOp .add 9 v7 v9) w (fun v10 => CallN P (callS (fnv 17) #[v10]) (fun v11 w => Do P (Instr.storeAt 28 v4 v11) (fun _ w => RdNow P (cellS 28 v4) w (fun vr0 => K vr0 w)) w) w))))))) w) w) w) w) w

def H68 : Hints := [(1, true, false, [0, 0, 0, 0, 0, 0, 0, 0], .rd 0 false 0 (.rd 1 false 0 (.rd 2 false 0 (.rd 3 false 0 (.rd 4 false 0 (.rd 5 true 0 (.ch 6 [] (.ch 7 [] (.done)))))))))]

theorem F68_eq (K : Value → World → Prop) (v0 v1 : Value) (w : World) : F68 Tryd.prog K v0 v1 w = pt Tryd.prog H68 none Tryd.f68.ntmps (bodyOf Tryd.f68) (RetQ Tryd.prog Tryd.f68.results K) (env0 [v0, v1]) [] w := by kernel_rfl

theorem F68_ok : codeOk cvTryd H68 (bodyOf Tryd.f68) = true := by kernel_rfl

theorem F68_has : Tryd.f68.body.isSome = true ∧ Nat.ble 2 Tryd.f68.ntmps = true := ⟨by kernel_rfl, by kernel_rfl⟩

theorem F68_calls {K : Value → World → Prop} {v0 v1 : Value} {w : World} (h : F68 Tryd.prog K v0 v1 w) : Calls Tryd.prog 68 #[v0, v1] w (Returns K) :=
  calls_of_eq (cv := cvTryd) (H := H68) (fn := Tryd.f68) (args := [v0, v1]) mixedTryd Tryd.func68 F68_has F68_ok (F68_eq K v0 v1 w) h

def F69_p1 (P : Program) (next1 : Env → World → Prop) (e3 : Env) (w : World) : Prop :=
  JoinC P (fun e4 w => Do P (binOp .add 3 (e4 4) (Value.int .i64 1)) (fun v8 w => @Eq (List Nat) [] [] ∧ next1 (upd (upd (upd e4 7 (e4 4)) 8 v8) 4 v8) w) w) (fun j3 => Do P (binOp .rem 23 (e3 0) (Value.int .u64 256)) (fun v11 w => Do P (convert 23 5 v11) (fun v12 w => Do P (Instr.buildSlice 22 1 #[(0, v12)]) (fun v13 w => CallN P (builtin .append #[22, 22] 22 #[false, false] #[(e3 3), v13]) (fun v14 w => Do P (binOp .quo 23 (e3 0) (Value.int .u64 256)) (fun v16 w => @Eq (List Nat) [] [] ∧ j3 (upd (upd (upd (upd (upd (upd (upd (upd (upd (upd e3 9 (e3 3)) 10 (e3 0)) 11 v11) 12 v12) 13 v13) 14 v14) 3 v14) 15 (e3 0)) 16 v16) 0 v16) w) w) w) w) w) w)

/-- bailee/baileeref03.Number -/
def F69 (P : Program) (K : Value → World → Prop) (v0 : Value) (w : World) : Prop :=
  JoinC P (fun e1 w => Do P (convert 22 9 (e1 3)) (fun v18 w => K v18 w) w) (fun j1 => Loop [5, 6, 9, 10, 11, 12, 13, 14, 3, 15, 16, 0, 7, 8, 4] (upd (upd (upd (env0 [v0]) 2 (Value.string ⟨#[]⟩)) 3 (Value.slice none 0 0)) 4 (Value.int .i64 0)) w (fun e2 next1 w => JoinC P (F69_p1 P next1) (fun j2 => Do P (binOp .lss 3 (e2 4) (Value.int .i64 8)) (fun v6 w => Cond v6 (@Eq (List Nat) [] [] ∧ j2 (upd (upd e2 5 (e2 4)) 6 v6) w) (@Eq (List Nat) [] [] ∧ j1 (upd (upd e2 5 (e2 4)) 6 v6) w)) w)))

def H69 : Hints := []

theorem F69_eq (K : Value → World → Prop) (v0 : Value) (w : World) : F69 Tryd.prog K v0 w = pt Tryd.prog H69 none Tryd.f69.ntmps (bodyOf Tryd.f69) (RetQ Tryd.prog Tryd.f69.results K) (env0 [v0]) [] w := by kernel_rfl

theorem F69_ok : codeOk cvTryd H69 (bodyOf Tryd.f69) = true := by kernel_rfl

theorem F69_has : Tryd.f69.body.isSome = true ∧ Nat.ble 1 Tryd.f69.ntmps = true := ⟨by kernel_rfl, by kernel_rfl⟩

theorem F69_calls {K : Value → World → Prop} {v0 : Value} {w : World} (h : F69 Tryd.prog K v0 w) : Calls Tryd.prog 69 #[v0] w (Returns K) :=
  calls_of_eq (cv := cvTryd) (H := H69) (fn := Tryd.f69) (args := [v0]) mixedTryd Tryd.func69 F69_has F69_ok (F69_eq K v0 w) h

def F70_p1 (P : Program) (next1 : Env → World → Prop) (e7 : Env) (w : World) : Prop :=
  CallN P (callS (fnv 87) #[(e7 0), (e7 1), (e7 2), (e7 11)]) (fun v99 w => Do P (Instr.extract v99 0) (fun v100 w => Do P (Instr.extract v99 1) (fun v101 w => Do P (binOp .sub 3 v100 (e7 1)) (fun v105 w => Do P (binOp .sub 3 (e7 2) v100) (fun v108 w => Do P (binOp .quo 3 (e7 10) (Value.int .i64 8)) (fun v110 w => Do P (binOp .lss 3 v105 v108) (fun v113 w => Cond v113 (Do P (binOp .geq 3 v105 v110) (fun v116 w => CallN P (callS (fnv 70) #[(e7 0), (e7 1), v100, (e7 3)]) (fun v121 w => Do P (binOp .add 3 v100 (Value.int .i64 1)) (fun v123 w => @Eq (List Nat) [] [] ∧ next1 (upd (upd (upd (upd (upd (upd (upd (upd (upd (upd (upd (upd (upd (upd (upd (upd (upd (upd (upd (upd (upd (upd (upd (upd (upd (upd (upd (upd (upd (upd (upd (upd (upd (upd (upd (upd (upd (upd e7 95 (e7 0)) 96 (e7 1)) 97 (e7 2)) 98 (e7 11)) 99 v99) 94 v99) 100 v100) 101 v101) 14 v100) 15 v101) 102 v101) 9 v101) 103 v100) 104 (e7 1)) 105 v105) 106 (e7 2)) 107 v100) 108 v108) 16 v105) 17 v108) 109 (e7 10)) 110 v110) 18 v110) 111 v105) 112 v108) 113 v113) 114 v105) 115 v110) 116 v116) 8 v116) 117 (e7 0)) 118 (e7 1)) 119 v100) 120 (e7 3)) 121 v121) 122 v100) 123 v123) 1 v123) w) w) w) w) (Do P (binOp .geq 3 v108 v110) (fun v126 w => Do P (binOp .add 3 v100 (Value.int .i64 1)) (fun v129 w => CallN P (callS (fnv 70) #[(e7 0), v129, (e7 2), (e7 3)]) (fun v132 w => @Eq (List Nat) [] [] ∧ next1 (upd (upd (upd (upd (upd (upd (upd (upd (upd (upd (upd (upd (upd (upd (upd (upd (upd (upd (upd (upd (upd (upd (upd (upd (upd (upd (upd (upd (upd (upd (upd (upd (upd (upd (upd (upd (upd (upd e7 95 (e7 0)) 96 (e7 1)) 97 (e7 2)) 98 (e7 11)) 99 v99) 94 v99) 100 v100) 101 v101) 14 v100) 15 v101) 102 v101) 9 v101) 103 v100) 104 (e7 1)) 105 v105) 106 (e7 2)) 107 v100) 108 v108) 16 v105) 17 v108) 109 (e7 10)) 110 v110) 18 v110) 111 v105) 112 v108) 113 v113) 124 v108) 125 v110) 126 v126) 8 v126) 127 (e7 0)) 128 v100) 129 v129) 130 (e7 2)) 131 (e7 3)) 132 v132) 133 v100) 2 v100) w) w) w) w)) w) w) w) w) w) w) w

def F70_p2 (P : Program) (next1 : Env → World → Prop) (e6 : Env) (w : World) : Prop :=
  JoinC P (F70_p1 P next1) (fun j6 => Drew (fun w => Draw (fun S1 w => RdS P (S1 0) (binOp .gtr 3 (e6 1) (Value.int .i64 0)) (fun v74 => Join (fun e8 w => RdNowN P (pickS (e8 75) (e8 86) (Value.bool false)) w (fun v87 => Cond v87 (CallN P (callS (fnv 86) #[(e8 0), (e8 1), (e8 2), (e8 11)]) (fun v92 w => @Eq (List Nat) [] [] ∧ next1 (upd (upd (upd (upd (upd (upd (upd (upd (upd e8 87 v87) 88 (e8 0)) 89 (e8 1)) 90 (e8 2)) 91 (e8 11)) 92 v92) 13 v92) 93 v92) 1 v92) w) w) (@Eq (List Nat) [] [] ∧ j6 (upd e8 87 v87) w))) (fun k1 => Guard v74 true (RdS P (S1 0) (binOp .sub 3 (e6 1) (Value.int .i64 1)) (fun v78 => RdS P (S1 0) (Instr.indexAt 65 (e6 0) v78) (fun v79 => RdNow P (Instr.loadAt 3 v79) w (fun v80 => RdS P (S1 0) (Instr.indexAt 65 (e6 0) (e6 11)) (fun v83 => RdNow P (Instr.loadAt 3 v83) w (fun v84 => CallN P (callS (fnv 85) #[v80, v84]) (fun v85 w => (S1 0) w ∧ (RdNow P (Op.unary .not v85) w (fun v86 => k1 (upd (upd (upd (upd (upd (upd (upd (upd (upd (upd (upd (upd (upd (upd e6 73 (e6 1)) 74 v74) 75 v74) 76 (e6 0)) 77 (e6 1)) 78 v78) 79 v79) 80 v80) 81 (e6 0)) 82 (e6 11)) 83 v83) 84 v84) 85 v85) 86 v86) w))) w)))))) (k1 (upd (upd (upd (upd (upd (upd (upd (upd (upd (upd (upd (upd (upd (upd e6 73 (e6 1)) 74 v74) 75 v74) 76 undef) 77 undef) 78 undef) 79 undef) 80 undef) 81 undef) 82 undef) 83 undef) 84 undef) 85 undef) 86 undef) w)))) w) w)

def F70_p3 (P : Program) (K : Value → World → Prop) (j5 : Env → World → Prop) (e9 : Env) (w : World) : Prop :=
  CallN P (pickS (e9 62) (e9 63) (Value.bool false)) (fun v64 w => Join (fun e10 w => CallN P (pickS (e10 65) (e10 67) (Value.bool false)) (fun v68 w => Cond v68 (CallN P (callS (fnv 84) #[(e10 0), (e10 1), (e10 2)]) (fun v72 w => Cond v72 (K (Value.tuple #[]) w) (@Eq (List Nat) [] [] ∧ j5 (upd (upd (upd (upd (upd e10 68 v68) 69 (e10 0)) 70 (e10 1)) 71 (e10 2)) 72 v72) w)) w) (@Eq (List Nat) [] [] ∧ j5 (upd e10 68 v68) w)) w) (fun k3 => Guard v64 true (Do P (eqS .eql 154 false true (e9 12) (Value.int .i64 1)) (fun v67 w => k3 (upd (upd (upd (upd e9 64 v64) 65 v64) 66 (e9 12)) 67 v67) w) w) (k3 (upd (upd (upd (upd e9 64 v64) 65 v64) 66 undef) 67 undef) w))) w

def F70_p4 (P : Program) (next1 : Env → World → Prop) (K : Value → World → Prop) (e4 : Env) (w : World) : Prop :=
  CallN P (callS (fnv 82) #[(e4 0), (e4 1), (e4 2)]) (fun v46 w => Do P (Instr.extract v46 0) (fun v47 w => Do P (Instr.extract v46 1) (fun v48 w => JoinC P (fun e5 w => JoinC P (F70_p2 P next1) (fun j5 => Join (F70_p3 P K j5) (fun k2 => Guard (e5 8) true (k2 (upd (upd (upd e5 61 (e5 8)) 62 (e5 8)) 63 (e5 9)) w) (k2 (upd (upd (upd e5 61 (e5 8)) 62 (e5 8)) 63 undef) w)))) (fun j4 => Do P (eqS .eql 154 false true v48 (Value.int .i64 2)) (fun v50 w => Cond v50 (CallN P (callS (fnv 83) #[(e4 0), (e4 1), (e4 2)]) (fun v54 w => Do P (binOp .sub 3 (e4 2) (Value.int .i64 1)) (fun v56 w => Do P (binOp .sub 3 v47 (e4 1)) (fun v59 w => Do P (binOp .sub 3 v56 v59) (fun v60 w => @Eq (List Nat) [] [] ∧ j4 (upd (upd (upd (upd (upd (upd (upd (upd (upd (upd (upd (upd (upd (upd (upd (upd (upd (upd (upd (upd (upd (upd (upd e4 43 (e4 0)) 44 (e4 1)) 45 (e4 2)) 46 v46) 42 v46) 47 v47) 48 v48) 11 v47) 12 v48) 49 v48) 50 v50) 51 (e4 0)) 52 (e4 1)) 53 (e4 2)) 54 v54) 55 (e4 2)) 56 v56) 57 v47) 58 (e4 1)) 59 v59) 60 v60) 11 v60) 12 (Value.int .i64 1)) w) w) w) w) w) (@Eq (List Nat) [] [] ∧ j4 (upd (upd (upd (upd (upd (upd (upd (upd (upd (upd (upd e4 43 (e4 0)) 44 (e4 1)) 45 (e4 2)) 46 v46) 42 v46) 47 v47) 48 v48) 11 v47) 12 v48) 49 v48) 50 v50) w)) w)) w) w) w

def F70_p5 (P : Program) (next1 : Env → World → Prop) (K : Value → World → Prop) (e2 : Env) (w : World) : Prop :=
  JoinC P (fun e3 w => JoinC P (F70_p4 P next1 K) (fun j3 => Do P (Op.unary .not (e3 8)) (fun v35 w => Cond v35 (CallN P (callS (fnv 81) #[(e3 0), (e3 1), (e3 2)]) (fun v39 w => Do P (binOp .sub 3 (e3 3) (Value.int .i64 1)) (fun v41 w => @Eq (List Nat) [] [] ∧ j3 (upd (upd (upd (upd (upd (upd (upd (upd (upd e3 34 (e3 8)) 35 v35) 36 (e3 0)) 37 (e3 1)) 38 (e3 2)) 39 v39) 40 (e3 3)) 41 v41) 3 v41) w) w) w) (@Eq (List Nat) [] [] ∧ j3 (upd (upd e3 34 (e3 8)) 35 v35) w)) w)) (fun j2 => Do P (eqS .eql 3 false true (e2 3) (Value.int .i64 0)) (fun v29 w => Cond v29 (CallN P (callS (fnv 80) #[(e2 0), (e2 1), (e2 2)]) (fun _ w => K (Value.tuple #[]) w) w) (@Eq (List Nat) [] [] ∧ j2 (upd (upd e2 28 (e2 3)) 29 v29) w)) w)

/-- slices.pdqsortOrdered[int] -/
def F70 (P : Program) (K : Value → World → Prop) (v0 v1 v2 v3 : Value) (w : World) : Prop :=
  Loop [19, 20, 21, 10, 22, 23, 24, 25, 26, 27, 28, 29, 30, 31, 32, 33, 34, 35, 36, 37, 38, 39, 40, 41, 3, 43, 44, 45, 46, 42, 47, 48, 11, 12, 49, 50, 51, 52, 53, 54, 55, 56, 57, 58, 59, 60, 61, 62, 63, 64, 65, 66, 67, 68, 69, 70, 71, 72, 73, 74, 75, 76, 77, 78, 79, 80, 81, 82, 83, 84, 85, 86, 87, 88, 89, 90, 91, 92, 13, 93, 1, 95, 96, 97, 98, 99, 94, 100, 101, 14, 15, 102, 9, 103, 104, 105, 106, 107, 108, 16, 17, 109, 110, 18, 111, 112, 113, 114, 115, 116, 8, 117, 118, 119, 120, 121, 122, 123, 124, 125, 126, 127, 128, 129, 130, 131, 132, 133, 2] (upd (upd (env0 [v0, v1, v2, v3]) 8 (Value.bool true)) 9 (Value.bool true)) w (fun e1 next1 w => Do P (binOp .sub 3 (e1 2) (e1 1)) (fun v21 w => JoinC P (F70_p5 P next1 K) (fun j1 => Do P (binOp .leq 3 v21 (Value.int .i64 12)) (fun v23 w => Cond v23 (CallN P (callS (fnv 79) #[(e1 0), (e1 1), (e1 2)]) (fun _ w => K (Value.tuple #[]) w) w) (@Eq (List Nat) [] [] ∧ j1 (upd (upd (upd (upd (upd (upd e1 19 (e1 2)) 20 (e1 1)) 21 v21) 10 v21) 22 v21) 23 v23) w)) w)) w)

def H70 : Hints := [(15, false, false, [], .ch 0 [] (.ch 1 [] (.grp 1 true [(2, none)] (.ch 3 [] (.ch 4 [] (.grp 4 true [(5, none), (6, none)] (.ch 7 [] (.done)))))))), (17, true, false, [0, 0, 0, 0, 0, 0, 0, 0, 0, 0, 0, 0, 0, 0, 0], .rd 0 true 0 (.rd 1 false 0 (.rd 2 true 0 (.grp 2 true [(3, some true), (4, some true), (5, some false), (6, some false), (7, some true), (8, some true), (9, some true), (10, some false), (11, some true), (12, none), (13, some true)] (.rd 14 true 0 (.done))))))]

theorem F70_eq (K : Value → World → Prop) (v0 v1 v2 v3 : Value) (w : World) : F70 Tryd.prog K v0 v1 v2 v3 w = pt Tryd.prog H70 none Tryd.f70.ntmps (bodyOf Tryd.f70) (RetQ Tryd.prog Tryd.f70.results K) (env0 [v0, v1, v2, v3]) [] w := by kernel_rfl

theorem F70_ok : codeOk cvTryd H70 (bodyOf Tryd.f70) = true := by kernel_rfl

theorem F70_has : Tryd.f70.body.isSome = true ∧ Nat.ble 4 Tryd.f70.ntmps = true := ⟨by kernel_rfl, by kernel_rfl⟩

theorem F70_calls {K : Value → World → Prop} {v0 v1 v2 v3 : Value} {w : World} (h : F70 Tryd.prog K v0 v1 v2 v3 w) : Calls Tryd.prog 70 #[v0, v1, v2, v3] w (Returns K) :=
  calls_of_eq (cv := cvTryd) (H := H70) (fn := Tryd.f70) (args := [v0, v1, v2, v3]) mixedTryd Tryd.func70 F70_has F70_ok (F70_eq K v0 v1 v2 v3 w) h

/-- math/bits.Len -/
def F71 (P : Program) (K : Value → World → Prop) (v0 : Value) (w : World) : Prop :=
  JoinC P (fun e1 w => CallN P (callS (fnv 89) #[(e1 0)]) (fun v7 w => K v7 w) w) (fun j1 => Cond (Value.bool false) (Do P (convert 143 110 v0) (fun v4 w => CallN P (callS (fnv 88) #[v4]) (fun v5 w => K v5 w) w) w) (@Eq (List Nat) [] [] ∧ j1 (upd (env0 [v0]) 2 (Value.int .i64 0)) w))

def H71 : Hints := []

theorem F71_eq (K : Value → World → Prop) (v0 : Value) (w : World) : F71 Tryd.prog K v0 w = pt Tryd.prog H71 none Tryd.f71.ntmps (bodyOf Tryd.f71) (RetQ Tryd.prog Tryd.f71.results K) (env0 [v0]) [] w := by kernel_rfl

theorem F71_ok : codeOk cvTryd H71 (bodyOf Tryd.f71) = true := by kernel_rfl

theorem F71_has : Tryd.f71.body.isSome = true ∧ Nat.ble 1 Tryd.f71.ntmps = true := ⟨by kernel_rfl, by kernel_rfl⟩

theorem F71_calls {K : Value → World → Prop} {v0 : Value} {w : World} (h : F71 Tryd.prog K v0 w) : Calls Tryd.prog 71 #[v0] w (Returns K) :=
  calls_of_eq (cv := cvTryd) (H := H71) (fn := Tryd.f71) (args := [v0]) mixedTryd Tryd.func71 F71_has F71_ok (F71_eq K v0 w) h

def F72_p1 (P : Program) (next1 : Env → World → Prop) (K : Value → World → Prop) (e2 : Env) (w : World) : Prop :=
  JoinC P (fun e3 w => Do P (Instr.loadAt 3 (e3 2)) (fun v11 w => Do P (binOp .add 3 (e3 4) v11) (fun v12 w => @Eq (List Nat) [] [] ∧ next1 (upd (upd (upd (upd e3 10 (e3 4)) 11 v11) 12 v12) 4 v12) w) w) w) (fun j2 => Drew (fun w => RdNow P (Instr.loadAt 3 (e2 2)) w (fun v13 => RdNow P (Instr.loadAt 31 (e2 1)) w (fun v14 => RdNow P (Instr.sliceAt 31 v14 (some (e2 4)) none none) w (fun v16 => RdNowN P (builtin .len #[31] 3 #[false] #[v16]) w (fun v17 => RdNowN P (builtin .min #[3, 3] 3 #[false, false] #[v13, v17]) w (fun v18 => Do P (Instr.loadAt 31 (e2 1)) (fun v20 w => Do P (binOp .add 3 (e2 4) v18) (fun v24 w => Do P (binOp .add 3 (e2 4) v18) (fun v27 w => Do P (Instr.sliceAt 31 v20 (some (e2 4)) (some v24) (some v27)) (fun v28 w => CallN P (callS (e2 0) #[v28]) (fun v29 w => Do P (Op.unary .not v29) (fun v30 w => Cond v30 (K (Value.tuple #[]) w) (@Eq (List Nat) [] [] ∧ j2 (upd (upd (upd (upd (upd (upd (upd (upd (upd (upd (upd (upd (upd (upd (upd (upd (upd (upd (upd e2 13 v13) 14 v14) 15 (e2 4)) 16 v16) 17 v17) 18 v18) 5 v18) 19 (e2 0)) 20 v20) 21 (e2 4)) 22 (e2 4)) 23 v18) 24 v24) 25 (e2 4)) 26 v18) 27 v27) 28 v28) 29 v29) 30 v30) w)) w) w) w) w) w) w)))))) w)

/-- slices.Chunk[[]bailee/api.Id,bailee/api.Id]$1 -/
def F72 (P : Program) (K : Value → World → Prop) (v0 v1 v2 : Value) (w : World) : Prop :=
  Loop [6, 7, 8, 9, 13, 14, 15, 16, 17, 18, 5, 19, 20, 21, 22, 23, 24, 25, 26, 27, 28, 29, 30, 10, 11, 12, 4] (upd (env0 [v0, v1, v2]) 4 (Value.int .i64 0)) w (fun e1 next1 w => JoinC P (F72_p1 P next1 K) (fun j1 => Do P (Instr.loadAt 31 (e1 1)) (fun v7 w => CallN P (builtin .len #[31] 3 #[false] #[v7]) (fun v8 w => Do P (binOp .lss 3 (e1 4) v8) (fun v9 w => Cond v9 (@Eq (List Nat) [] [] ∧ j1 (upd (upd (upd (upd e1 6 (e1 4)) 7 v7) 8 v8) 9 v9) w) (K (Value.tuple #[]) w)) w) w) w))

def H72 : Hints := [(3, false, false, [], .rd 0 true 0 (.rd 1 true 0 (.rd 2 true 0 (.rd 3 true 0 (.rd 4 true 0 (.rd 5 true 0 (.rd 6 true 0 (.done))))))))]

theorem F72_eq (K : Value → World → Prop) (v0 v1 v2 : Value) (w : World) : F72 Tryd.prog K v0 v1 v2 w = pt Tryd.prog H72 none Tryd.f72.ntmps (bodyOf Tryd.f72) (RetQ Tryd.prog Tryd.f72.results K) (env0 [v0, v1, v2]) [] w := by kernel_rfl

theorem F72_ok : codeOk cvTryd H72 (bodyOf Tryd.f72) = true := by kernel_rfl

theorem F72_has : Tryd.f72.body.isSome = true ∧ Nat.ble 3 Tryd.f72.ntmps = true := ⟨by kernel_rfl, by kernel_rfl⟩

theorem F72_calls {K : Value → World → Prop} {v0 v1 v2 : Value} {w : World} (h : F72 Tryd.prog K v0 v1 v2 w) : Calls Tryd.prog 72 #[v0, v1, v2] w (Returns K) :=
  calls_of_eq (cv := cvTryd) (H := H72) (fn := Tryd.f72) (args := [v0, v1, v2]) mixedTryd Tryd.func72 F72_has F72_ok (F72_eq K v0 v1 v2 w) h

def F73_p1 (P : Program) (j2 : Env → World → Prop) (e3 : Env) (next1 : Env → World → Prop) (w : World) : Prop :=
  Do P (binOp .lss 3 (e3 27) (e3 26)) (fun v28 w => JoinC P (fun e4 w => JoinC P (fun e5 w => Do P (binOp .add 3 (e5 27) (Value.int .i64 1)) (fun v34 w => @Eq (List Nat) [] [] ∧ next1 (upd (upd e5 34 v34) 27 v34) w) w) (fun j4 => Do P (Instr.indexAt 101 (e4 25) (e4 27)) (fun v29 w => Do P (Instr.loadAt 22 v29) (fun v30 w => CallN P (builtin .append #[22, 22] 22 #[false, false] #[(e4 6), v30]) (fun v33 w => @Eq (List Nat) [] [] ∧ j4 (upd (upd (upd (upd (upd (upd (upd e4 29 v29) 30 v30) 8 v30) 31 (e4 6)) 32 v30) 33 v33) 6 v33) w) w) w) w)) (fun j3 => Cond v28 (@Eq (List Nat) [] [] ∧ j3 (upd e3 28 v28) w) (@Eq (List Nat) [] [] ∧ j2 (upd e3 28 v28) w))) w

def F73_p2 (P : Program) (next2 : Env → World → Prop) (e7 : Env) (w : World) : Prop :=
  JoinC P (fun e8 w => Do P (binOp .add 3 (e8 11) (Value.int .i64 1)) (fun v22 w => @Eq (List Nat) [] [] ∧ next2 (upd (upd e8 22 v22) 11 v22) w) w) (fun j6 => Do P (Instr.indexAt 101 (e7 9) (e7 11)) (fun v13 w => Do P (Instr.loadAt 22 v13) (fun v14 w => CallN P (builtin .len #[22] 3 #[false] #[v14]) (fun v17 w => Do P (binOp .add 3 (e7 3) v17) (fun v18 w => Do P (binOp .lss 3 v18 (Value.int .i64 0)) (fun v20 w => Cond v20 (Do P (Instr.makeInterface 9 (Value.string ⟨#[108, 101, 110, 32, 111, 117, 116, 32, 111, 102, 32, 114, 97, 110, 103, 101]⟩)) (fun _ w => False) w) (@Eq (List Nat) [] [] ∧ j6 (upd (upd (upd (upd (upd (upd (upd (upd (upd (upd e7 13 v13) 14 v14) 5 v14) 15 (e7 3)) 16 v14) 17 v17) 18 v18) 3 v18) 19 v18) 20 v20) w)) w) w) w) w) w)

/-- slices.Concat[[]byte,byte] -/
def F73 (P : Program) (K : Value → World → Prop) (v0 : Value) (w : World) : Prop :=
  JoinC P (fun e1 w => CallN P (callS (fnv 90) #[(Value.slice none 0 0), (e1 3)]) (fun v24 w => JoinC P (fun e2 w => K (e2 6) w) (fun j2 => CallN P (builtin .len #[101] 3 #[false] #[(e1 0)]) (fun v26 w => Loop [28, 29, 30, 8, 31, 32, 33, 6, 34, 27] (upd (upd (upd (upd (upd (upd e1 23 (e1 3)) 24 v24) 6 v24) 25 (e1 0)) 26 v26) 27 (Value.int .i64 0)) w (F73_p1 P j2)) w)) w) (fun j1 => CallN P (builtin .len #[101] 3 #[false] #[v0]) (fun v10 w => Loop [12, 13, 14, 5, 15, 16, 17, 18, 3, 19, 20, 21, 22, 11] (upd (upd (upd (upd (upd (env0 [v0]) 2 (Value.slice none 0 0)) 3 (Value.int .i64 0)) 9 v0) 10 v10) 11 (Value.int .i64 0)) w (fun e6 next2 w => Do P (binOp .lss 3 (e6 11) (e6 10)) (fun v12 w => JoinC P (F73_p2 P next2) (fun j5 => Cond v12 (@Eq (List Nat) [] [] ∧ j5 (upd e6 12 v12) w) (@Eq (List Nat) [] [] ∧ j1 (upd e6 12 v12) w))) w)) w)

def H73 : Hints := []

theorem F73_eq (K : Value → World → Prop) (v0 : Value) (w : World) : F73 Tryd.prog K v0 w = pt Tryd.prog H73 none Tryd.f73.ntmps (bodyOf Tryd.f73) (RetQ Tryd.prog Tryd.f73.results K) (env0 [v0]) [] w := by kernel_rfl

theorem F73_ok : codeOk cvTryd H73 (bodyOf Tryd.f73) = true := by kernel_rfl

theorem F73_has : Tryd.f73.body.isSome = true ∧ Nat.ble 1 Tryd.f73.ntmps = true := ⟨by kernel_rfl, by kernel_rfl⟩

theorem F73_calls {K : Value → World → Prop} {v0 : Value} {w : World} (h : F73 Tryd.prog K v0 w) : Calls Tryd.prog 73 #[v0] w (Returns K) :=
  calls_of_eq (cv := cvTryd) (H := H73) (fn := Tryd.f73) (args := [v0]) mixedTryd Tryd.func73 F73_has F73_ok (F73_eq K v0 w) h

/-- (*bailee/digest.ring).next -/
def F75 (P : Program) (K : Value → World → Prop) (v0 v1 : Value) (w : World) : Prop :=
  Drew (fun w => RdNow P (binOp .add 3 v1 (Value.int .i64 1)) w (fun v11 => RdNow P (binOp .rem 3 v11 (Value.int .i64 16)) w (fun v12 => RdNowN P (nilS v0) w (fun v13 => RdNow P (Instr.indexAt 148 v13 v12) w (fun v14 => RdNow P (Instr.loadAt 110 v14) w (fun v15 => RdNow P (binOp .add 3 v1 (Value.int .i64 14)) w (fun v18 => RdNow P (binOp .rem 3 v18 (Value.int .i64 16)) w (fun v19 => RdNowN P (nilS v0) w (fun v20 => RdNow P (Instr.indexAt 148 v20 v19) w (fun v21 => RdNow P (Instr.loadAt 110 v21) w (fun v22 => CallN P (callS (fnv 91) #[v15, (Value.int .i64 7)]) (fun v24 w => CallN P (callS (fnv 91) #[v15, (Value.int .i64 18)]) (fun v26 w => Do P (binOp .xor 110 v24 v26) (fun v27 w => Do P (binOp .shr 110 v15 (Value.int .u64 3)) (fun v29 w => Do P (binOp .xor 110 v27 v29) (fun v30 w => CallN P (callS (fnv 91) #[v22, (Value.int .i64 17)]) (fun v32 w => CallN P (callS (fnv 91) #[v22, (Value.int .i64 19)]) (fun v34 w => Do P (binOp .xor 110 v32 v34) (fun v35 w => Do P (binOp .shr 110 v22 (Value.int .u64 10)) (fun v37 w => Do P (binOp .xor 110 v35 v37) (fun v38 w => Drew (fun w => Draw (fun S1 w => RdNow P (binOp .rem 3 v1 (Value.int .i64 16)) w (fun v41 => RdNowN P (nilS v0) w (fun v42 => RdNow P (Instr.indexAt 148 v42 v41) w (fun v43 => RdNow P (Instr.loadAt 110 v43) w (fun v44 => RdNow P (binOp .add 3 v1 (Value.int .i64 9)) w (fun v48 => RdNow P (binOp .rem 3 v48 (Value.int .i64 16)) w (fun v49 => RdNowN P (nilS v0) w (fun v50 => RdNow P (Instr.indexAt 148 v50 v49) w (fun v51 => RdNow P (Instr.loadAt 110 v51) w (fun v52 => RdNow P (binOp .add 110 v30 v52) w (fun v53 => RdNow P (binOp .add 110 v53 v38) w (fun v55 => RdNow P (binOp .add 110 v44 v55) w (fun v56 => RdSN P (S1 0) (nilS v0) (fun v57 => RdNow P (Instr.indexAt 148 v57 v41) w (fun v58 => Do P (Instr.storeAt 110 v58 v56) (fun _ w => Do P (binOp .rem 3 v1 (Value.int .i64 16)) (fun v61 w => CallN P (nilS v0) (fun v62 w => Do P (Instr.indexAt 148 v62 v61) (fun v63 w => Do P (Instr.loadAt 110 v63) (fun v64 w => K v64 w) w) w) w) w) w))))))))))))))) w) w) w) w) w) w) w) w) w) w) w) w))))))))))) w

def H75 : Hints := [(1, false, false, [], .rd 0 true 0 (.rd 1 true 0 (.rd 2 true 0 (.rd 3 true 0 (.rd 4 true 0 (.rd 5 true 0 (.rd 6 true 0 (.rd 7 true 0 (.rd 8 true 0 (.rd 9 true 0 (.rd 10 true 0 (.rd 11 true 0 (.rd 12 true 0 (.rd 13 true 0 (.rd 14 true 0 (.rd 15 true 0 (.done))))))))))))))))), (4, true, false, [0, 0, 0, 0, 0, 0, 0, 0, 0, 0, 0, 0, 0, 0, 0, 0, 0, 0, 0, 0, 0], .rd 0 true 0 (.rd 1 true 0 (.rd 2 true 0 (.rd 3 true 0 (.rd 4 true 0 (.rd 5 true 0 (.rd 6 true 0 (.rd 7 true 0 (.rd 8 true 0 (.rd 9 true 0 (.rd 10 true 0 (.rd 11 true 0 (.rd 12 true 0 (.rd 13 true 0 (.rd 14 true 0 (.rd 15 true 0 (.rd 16 true 0 (.rd 17 true 0 (.rd 18 false 0 (.rd 19 true 0 (.ch 20 [] (.done))))))))))))))))))))))]

theorem F75_eq (K : Value → World → Prop) (v0 v1 : Value) (w : World) : F75 Tryd.prog K v0 v1 w = pt Tryd.prog H75 none Tryd.f75.ntmps (bodyOf Tryd.f75) (RetQ Tryd.prog Tryd.f75.results K) (env0 [v0, v1]) [] w := by kernel_rfl

theorem F75_ok : codeOk cvTryd H75 (bodyOf Tryd.f75) = true := by kernel_rfl

theorem F75_has : Tryd.f75.body.isSome = true ∧ Nat.ble 2 Tryd.f75.ntmps = true := ⟨by kernel_rfl, by kernel_rfl⟩

theorem F75_calls {K : Value → World → Prop} {v0 v1 : Value} {w : World} (h : F75 Tryd.prog K v0 v1 w) : Calls Tryd.prog 75 #[v0, v1] w (Returns K) :=
  calls_of_eq (cv := cvTryd) (H := H75) (fn := Tryd.f75) (args := [v0, v1]) mixedTryd Tryd.func75 F75_has F75_ok (F75_eq K v0 v1 w) h

/-- bailee/digest.three -/
def F76 (P : Program) (K : Value → World → Prop) (v0 v1 v2 v3 : Value) (w : World) : Prop :=
  CallN P (callS (fnv 91) #[v0, v1]) (fun v11 w => CallN P (callS (fnv 91) #[v0, v2]) (fun v14 w => Do P (binOp .xor 110 v11 v14) (fun v15 w => CallN P (callS (fnv 91) #[v0, v3]) (fun v18 w => Do P (binOp .xor 110 v15 v18) (fun v19 w => K v19 w) w) w) w) w) w

def H76 : Hints := []

theorem F76_eq (K : Value → World → Prop) (v0 v1 v2 v3 : Value) (w : World) : F76 Tryd.prog K v0 v1 v2 v3 w = pt Tryd.prog H76 none Tryd.f76.ntmps (bodyOf Tryd.f76) (RetQ Tryd.prog Tryd.f76.results K) (env0 [v0, v1, v2, v3]) [] w := by kernel_rfl

theorem F76_ok : codeOk cvTryd H76 (bodyOf Tryd.f76) = true := by kernel_rfl

theorem F76_has : Tryd.f76.body.isSome = true ∧ Nat.ble 4 Tryd.f76.ntmps = true := ⟨by kernel_rfl, by kernel_rfl⟩

theorem F76_calls {K : Value → World → Prop} {v0 v1 v2 v3 : Value} {w : World} (h : F76 Tryd.prog K v0 v1 v2 v3 w) : Calls Tryd.prog 76 #[v0, v1, v2, v3] w (Returns K) :=
  calls_of_eq (cv := cvTryd) (H := H76) (fn := Tryd.f76) (args := [v0, v1, v2, v3]) mixedTryd Tryd.func76 F76_has F76_ok (F76_eq K v0 v1 v2 v3 w) h

/-- slices.AppendSeq[[][]byte,[]byte] -/
def F77 (P : Program) (K : Value → World → Prop) (v0 v1 : Value) (w : World) : Prop :=
  Do P (Instr.box 101 v0) (fun v2 w => JoinD (fun e1 ds1 w => Do P (Instr.loadAt 101 (e1 2)) (fun v12 w => RetM P #[.tmp 4] K (upd (upd e1 12 v12) 4 v12) ds1 w) w) (fun j1 => RangeF P none 13 v1 #[7] (rfA Tryd.f77 0) (rfB Tryd.f77 0) (inBlk 0 (thenQ j1 (RetQ P #[.tmp 4] K))) (upd (upd (upd (env0 [v0, v1]) 2 v2) 4 (Value.slice none 0 0)) 6 v1) [] w)) w

def H77 : Hints := []

theorem F77_eq (K : Value → World → Prop) (v0 v1 : Value) (w : World) : F77 Tryd.prog K v0 v1 w = pt Tryd.prog H77 none Tryd.f77.ntmps (bodyOf Tryd.f77) (RetQ Tryd.prog Tryd.f77.results K) (env0 [v0, v1]) [] w := by kernel_rfl

theorem F77_ok : codeOk cvTryd H77 (bodyOf Tryd.f77) = true := by kernel_rfl

theorem F77_has : Tryd.f77.body.isSome = true ∧ Nat.ble 2 Tryd.f77.ntmps = true := ⟨by kernel_rfl, by kernel_rfl⟩

theorem F77_calls {K : Value → World → Prop} {v0 v1 : Value} {w : World} (h : F77 Tryd.prog K v0 v1 w) : Calls Tryd.prog 77 #[v0, v1] w (Returns K) :=
  calls_of_eq (cv := cvTryd) (H := H77) (fn := Tryd.f77) (args := [v0, v1]) mixedTryd Tryd.func77 F77_has F77_ok (F77_eq K v0 v1 w) h

def R77_0A (P : Program) (l : Nat) (Q : QQ) (e : Env) (ds : List Nat) (w : World) : Prop :=
  Q .normal (upd e 5 (e 7)) ds w

theorem R77_0A_eq (l : Nat) (Q : QQ) (e : Env) (ds : List Nat) (w : World) : R77_0A Tryd.prog l Q e ds w = pt Tryd.prog H77 (some l) 13 (rfA Tryd.f77 0) Q e ds w := by kernel_rfl

theorem R77_0A_ok : codeOk cvTryd H77 (rfA Tryd.f77 0) = true := by kernel_rfl

def R77_0B (P : Program) (l : Nat) (Q : QQ) (e : Env) (ds : List Nat) (w : World) : Prop :=
  Do P (Instr.loadAt 101 (e 2)) (fun v8 w => Do P (Instr.buildSlice 101 1 #[(0, (e 5))]) (fun v10 w => CallN P (builtin .append #[101, 101] 101 #[false, false] #[v8, v10]) (fun v11 w => Do P (Instr.storeAt 101 (e 2) v11) (fun _ w => Q .normal (upd (upd (upd (upd e 8 v8) 9 (e 5)) 10 v10) 11 v11) ds w) w) w) w) w

theorem R77_0B_eq (l : Nat) (Q : QQ) (e : Env) (ds : List Nat) (w : World) : R77_0B Tryd.prog l Q e ds w = pt Tryd.prog H77 (some l) 13 (rfB Tryd.f77 0) Q e ds w := by kernel_rfl

theorem R77_0B_ok : codeOk cvTryd H77 (rfB Tryd.f77 0) = true := by kernel_rfl

def F78_p1 (P : Program) (next1 : Env → World → Prop) (K : Value → World → Prop) (e2 : Env) (w : World) : Prop :=
  JoinC P (fun e3 w => Do P (Instr.loadAt 3 (e3 2)) (fun v11 w => Do P (binOp .add 3 (e3 4) v11) (fun v12 w => @Eq (List Nat) [] [] ∧ next1 (upd (upd (upd (upd e3 10 (e3 4)) 11 v11) 12 v12) 4 v12) w) w) w) (fun j2 => Drew (fun w => RdNow P (Instr.loadAt 3 (e2 2)) w (fun v13 => RdNow P (Instr.loadAt 22 (e2 1)) w (fun v14 => RdNow P (Instr.sliceAt 22 v14 (some (e2 4)) none none) w (fun v16 => RdNowN P (builtin .len #[22] 3 #[false] #[v16]) w (fun v17 => RdNowN P (builtin .min #[3, 3] 3 #[false, false] #[v13, v17]) w (fun v18 => Do P (Instr.loadAt 22 (e2 1)) (fun v20 w => Do P (binOp .add 3 (e2 4) v18) (fun v24 w => Do P (binOp .add 3 (e2 4) v18) (fun v27 w => Do P (Instr.sliceAt 22 v20 (some (e2 4)) (some v24) (some v27)) (fun v28 w => CallN P (callS (e2 0) #[v28]) (fun v29 w => Do P (Op.unary .not v29) (fun v30 w => Cond v30 (K (Value.tuple #[]) w) (@Eq (List Nat) [] [] ∧ j2 (upd (upd (upd (upd (upd (upd (upd (upd (upd (upd (upd (upd (upd (upd (upd (upd (upd (upd (upd e2 13 v13) 14 v14) 15 (e2 4)) 16 v16) 17 v17) 18 v18) 5 v18) 19 (e2 0)) 20 v20) 21 (e2 4)) 22 (e2 4)) 23 v18) 24 v24) 25 (e2 4)) 26 v18) 27 v27) 28 v28) 29 v29) 30 v30) w)) w) w) w) w) w) w)))))) w)

/-- slices.Chunk[[]byte,byte]$1 -/
def F78 (P : Program) (K : Value → World → Prop) (v0 v1 v2 : Value) (w : World) : Prop :=
  Loop [6, 7, 8, 9, 13, 14, 15, 16, 17, 18, 5, 19, 20, 21, 22, 23, 24, 25, 26, 27, 28, 29, 30, 10, 11, 12, 4] (upd (env0 [v0, v1, v2]) 4 (Value.int .i64 0)) w (fun e1 next1 w => JoinC P (F78_p1 P next1 K) (fun j1 => Do P (Instr.loadAt 22 (e1 1)) (fun v7 w => CallN P (builtin .len #[22] 3 #[false] #[v7]) (fun v8 w => Do P (binOp .lss 3 (e1 4) v8) (fun v9 w => Cond v9 (@Eq (List Nat) [] [] ∧ j1 (upd (upd (upd (upd e1 6 (e1 4)) 7 v7) 8 v8) 9 v9) w) (K (Value.tuple #[]) w)) w) w) w))

def H78 : Hints := [(3, false, false, [], .rd 0 true 0 (.rd 1 true 0 (.rd 2 true 0 (.rd 3 true 0 (.rd 4 true 0 (.rd 5 true 0 (.rd 6 true 0 (.done))))))))]

theorem F78_eq (K : Value → World → Prop) (v0 v1 v2 : Value) (w : World) : F78 Tryd.prog K v0 v1 v2 w = pt Tryd.prog H78 none Tryd.f78.ntmps (bodyOf Tryd.f78) (RetQ Tryd.prog Tryd.f78.results K) (env0 [v0, v1, v2]) [] w := by kernel_rfl

theorem F78_ok : codeOk cvTryd H78 (bodyOf Tryd.f78) = true := by kernel_rfl

theorem F78_has : Tryd.f78.body.isSome = true ∧ Nat.ble 3 Tryd.f78.ntmps = true := ⟨by kernel_rfl, by kernel_rfl⟩

theorem F78_calls {K : Value → World → Prop} {v0 v1 v2 : Value} {w : World} (h : F78 Tryd.prog K v0 v1 v2 w) : Calls Tryd.prog 78 #[v0, v1, v2] w (Returns K) :=
  calls_of_eq (cv := cvTryd) (H := H78) (fn := Tryd.f78) (args := [v0, v1, v2]) mixedTryd Tryd.func78 F78_has F78_ok (F78_eq K v0 v1 v2 w) h

def F79_p1 (P : Program) (next2 : Env → World → Prop) (e5 : Env) (w : World) : Prop :=
  JoinC P (fun e6 w => Do P (binOp .sub 3 (e6 7) (Value.int .i64 1)) (fun v32 w => @Eq (List Nat) [] [] ∧ next2 (upd (upd (upd e6 31 (e6 7)) 32 v32) 7 v32) w) w) (fun j4 => Drew (fun w => Draw (fun S1 w => RdS P (S1 1) (binOp .sub 3 (e5 7) (Value.int .i64 1)) (fun v37 => RdNow P (binOp .sub 3 (e5 7) (Value.int .i64 1)) w (fun v40 => RdNow P (Instr.indexAt 65 (e5 0) v40) w (fun v41 => RdNow P (Instr.loadAt 3 v41) w (fun v42 => RdS P (S1 0) (Instr.indexAt 65 (e5 0) (e5 7)) (fun v45 => RdNow P (Instr.loadAt 3 v45) w (fun v46 => RdNow P (Instr.indexAt 65 (e5 0) (e5 7)) w (fun v47 => Do P (Instr.storeAt 3 v47 v42) (fun _ w => S1 1 w ∧ (RdNow P (Instr.indexAt 65 (e5 0) v37) w (fun v48 => Do P (Instr.storeAt 3 v48 v46) (fun _ w => @Eq (List Nat) [] [] ∧ j4 (upd (upd (upd (upd (upd (upd (upd (upd (upd (upd (upd (upd (upd (upd (upd (upd e5 33 (e5 0)) 34 (e5 7)) 35 (e5 0)) 36 (e5 7)) 37 v37) 38 (e5 0)) 39 (e5 7)) 40 v40) 41 v41) 42 v42) 43 (e5 0)) 44 (e5 7)) 45 v45) 46 v46) 47 v47) 48 v48) w) w))) w)))))))) w) w)

def F79_p2 (P : Program) (j2 : Env → World → Prop) (e4 : Env) (next2 : Env → World → Prop) (w : World) : Prop :=
  JoinC P (F79_p1 P next2) (fun j3 => Drew (fun w => Draw (fun S2 w => RdS P (S2 0) (binOp .gtr 3 (e4 7) (e4 1)) (fun v18 => Join (fun e7 w => RdNowN P (pickS (e7 19) (e7 29) (Value.bool false)) w (fun v30 => Cond v30 (@Eq (List Nat) [] [] ∧ j3 (upd e7 30 v30) w) (@Eq (List Nat) [] [] ∧ j2 (upd e7 30 v30) w))) (fun k1 => Guard v18 true (RdS P (S2 0) (Instr.indexAt 65 (e4 0) (e4 7)) (fun v22 => RdNow P (Instr.loadAt 3 v22) w (fun v23 => RdS P (S2 0) (binOp .sub 3 (e4 7) (Value.int .i64 1)) (fun v26 => RdS P (S2 0) (Instr.indexAt 65 (e4 0) v26) (fun v27 => RdNow P (Instr.loadAt 3 v27) w (fun v28 => CallN P (callS (fnv 85) #[v23, v28]) (fun v29 w => (S2 0) w ∧ (k1 (upd (upd (upd (upd (upd (upd (upd (upd (upd (upd (upd (upd (upd (upd e4 16 (e4 7)) 17 (e4 1)) 18 v18) 19 v18) 20 (e4 0)) 21 (e4 7)) 22 v22) 23 v23) 24 (e4 0)) 25 (e4 7)) 26 v26) 27 v27) 28 v28) 29 v29) w)) w)))))) (k1 (upd (upd (upd (upd (upd (upd (upd (upd (upd (upd (upd (upd (upd (upd e4 16 (e4 7)) 17 (e4 1)) 18 v18) 19 v18) 20 undef) 21 undef) 22 undef) 23 undef) 24 undef) 25 undef) 26 undef) 27 undef) 28 undef) 29 undef) w)))) w) w)

def F79_p3 (P : Program) (K : Value → World → Prop) (e1 : Env) (next1 : Env → World → Prop) (w : World) : Prop :=
  JoinC P (fun e2 w => JoinC P (fun e3 w => Do P (binOp .add 3 (e3 6) (Value.int .i64 1)) (fun v14 w => @Eq (List Nat) [] [] ∧ next1 (upd (upd (upd e3 13 (e3 6)) 14 v14) 6 v14) w) w) (fun j2 => Loop [16, 17, 18, 19, 20, 21, 22, 23, 24, 25, 26, 27, 28, 29, 30, 33, 34, 35, 36, 37, 38, 39, 40, 41, 42, 43, 44, 45, 46, 47, 48, 31, 32, 7] (upd (upd e2 15 (e2 6)) 7 (e2 6)) w (F79_p2 P j2))) (fun j1 => Do P (binOp .lss 3 (e1 6) (e1 2)) (fun v12 w => Cond v12 (@Eq (List Nat) [] [] ∧ j1 (upd (upd (upd e1 10 (e1 6)) 11 (e1 2)) 12 v12) w) (K (Value.tuple #[]) w)) w)

/-- slices.insertionSortOrdered[int] -/
def F79 (P : Program) (K : Value → World → Prop) (v0 v1 v2 : Value) (w : World) : Prop :=
  Do P (binOp .add 3 v1 (Value.int .i64 1)) (fun v9 w => Loop [10, 11, 12, 15, 7, 16, 17, 18, 19, 20, 21, 22, 23, 24, 25, 26, 27, 28, 29, 30, 33, 34, 35, 36, 37, 38, 39, 40, 41, 42, 43, 44, 45, 46, 47, 48, 31, 32, 13, 14, 6] (upd (upd (upd (env0 [v0, v1, v2]) 8 v1) 9 v9) 6 v9) w (F79_p3 P K)) w

def H79 : Hints := [(4, true, false, [0, 0, 0, 0, 0, 0, 0, 0, 0, 0, 0, 0, 0, 0, 0], .rd 0 true 0 (.rd 1 true 0 (.rd 2 false 0 (.rd 3 true 0 (.grp 3 true [(4, some true), (5, some true), (6, some false), (7, some true), (8, some true), (9, some true), (10, some false), (11, some false), (12, some true), (13, none)] (.rd 14 true 0 (.done))))))), (6, true, false, [0, 0, 0, 0, 1, 0, 0, 0, 0, 0, 0, 0, 0, 0, 0, 0, 0, 0], .rd 0 true 0 (.rd 1 true 0 (.rd 2 true 0 (.rd 3 true 0 (.rd 4 false 1 (.rd 5 true 0 (.rd 6 true 0 (.rd 7 true 0 (.rd 8 true 0 (.rd 9 true 0 (.rd 10 true 0 (.rd 11 true 0 (.rd 12 false 0 (.rd 13 true 0 (.rd 14 true 0 (.ch 15 [1] (.rd 16 true 0 (.ch 17 [] (.done)))))))))))))))))))]

theorem F79_eq (K : Value → World → Prop) (v0 v1 v2 : Value) (w : World) : F79 Tryd.prog K v0 v1 v2 w = pt Tryd.prog H79 none Tryd.f79.ntmps (bodyOf Tryd.f79) (RetQ Tryd.prog Tryd.f79.results K) (env0 [v0, v1, v2]) [] w := by kernel_rfl

theorem F79_ok : codeOk cvTryd H79 (bodyOf Tryd.f79) = true := by kernel_rfl

theorem F79_has : Tryd.f79.body.isSome = true ∧ Nat.ble 3 Tryd.f79.ntmps = true := ⟨by kernel_rfl, by kernel_rfl⟩

theorem F79_calls {K : Value → World → Prop} {v0 v1 v2 : Value} {w : World} (h : F79 Tryd.prog K v0 v1 v2 w) : Calls Tryd.prog 79 #[v0, v1, v2] w (Returns K) :=
  calls_of_eq (cv := cvTryd) (H := H79) (fn := Tryd.f79) (args := [v0, v1, v2]) mixedTryd Tryd.func79 F79_has F79_ok (F79_eq K v0 v1 v2 w) h

def F80_p1 (P : Program) (next1 : Env → World → Prop) (e3 : Env) (w : World) : Prop :=
  JoinC P (fun e4 w => Do P (binOp .sub 3 (e4 10) (Value.int .i64 1)) (fun v32 w => @Eq (List Nat) [] [] ∧ next1 (upd (upd (upd e4 31 (e4 10)) 32 v32) 10 v32) w) w) (fun j3 => Drew (fun w => Draw (fun S1 w => RdS P (S1 1) (binOp .add 3 (e3 6) (e3 10)) (fun v38 => RdNow P (binOp .add 3 (e3 6) (e3 10)) w (fun v42 => RdNow P (Instr.indexAt 65 (e3 0) v42) w (fun v43 => RdNow P (Instr.loadAt 3 v43) w (fun v44 => RdS P (S1 0) (Instr.indexAt 65 (e3 0) (e3 6)) (fun v47 => RdNow P (Instr.loadAt 3 v47) w (fun v48 => RdNow P (Instr.indexAt 65 (e3 0) (e3 6)) w (fun v49 => Do P (Instr.storeAt 3 v49 v44) (fun _ w => S1 1 w ∧ (RdNow P (Instr.indexAt 65 (e3 0) v38) w (fun v50 => Do P (Instr.storeAt 3 v50 v48) (fun _ w => CallN P (callS (fnv 92) #[(e3 0), (e3 7), (e3 10), (e3 6)]) (fun v55 w => @Eq (List Nat) [] [] ∧ j3 (upd (upd (upd (upd (upd (upd (upd (upd (upd (upd (upd (upd (upd (upd (upd (upd (upd (upd (upd (upd (upd (upd (upd e3 33 (e3 0)) 34 (e3 6)) 35 (e3 0)) 36 (e3 6)) 37 (e3 10)) 38 v38) 39 (e3 0)) 40 (e3 6)) 41 (e3 10)) 42 v42) 43 v43) 44 v44) 45 (e3 0)) 46 (e3 6)) 47 v47) 48 v48) 49 v49) 50 v50) 51 (e3 0)) 52 (e3 7)) 53 (e3 10)) 54 (e3 6)) 55 v55) w) w) w))) w)))))))) w) w)

def F80_p2 (P : Program) (j1 : Env → World → Prop) (e5 : Env) (next2 : Env → World → Prop) (w : World) : Prop :=
  JoinC P (fun e6 w => JoinC P (fun e7 w => Do P (binOp .sub 3 (e7 9) (Value.int .i64 1)) (fun v21 w => @Eq (List Nat) [] [] ∧ next2 (upd (upd (upd e7 20 (e7 9)) 21 v21) 9 v21) w) w) (fun j5 => CallN P (callS (fnv 92) #[(e6 0), (e6 9), (e6 8), (e6 6)]) (fun v26 w => @Eq (List Nat) [] [] ∧ j5 (upd (upd (upd (upd (upd e6 22 (e6 0)) 23 (e6 9)) 24 (e6 8)) 25 (e6 6)) 26 v26) w) w)) (fun j4 => Do P (binOp .geq 3 (e5 9) (Value.int .i64 0)) (fun v19 w => Cond v19 (@Eq (List Nat) [] [] ∧ j4 (upd (upd e5 18 (e5 9)) 19 v19) w) (@Eq (List Nat) [] [] ∧ j1 (upd (upd e5 18 (e5 9)) 19 v19) w)) w)

/-- slices.heapSortOrdered[int] -/
def F80 (P : Program) (K : Value → World → Prop) (v0 v1 v2 : Value) (w : World) : Prop :=
  Do P (binOp .sub 3 v2 v1) (fun v14 w => JoinC P (fun e1 w => Do P (binOp .sub 3 (e1 8) (Value.int .i64 1)) (fun v28 w => Loop [29, 30, 33, 34, 35, 36, 37, 38, 39, 40, 41, 42, 43, 44, 45, 46, 47, 48, 49, 50, 51, 52, 53, 54, 55, 31, 32, 10] (upd (upd (upd e1 27 (e1 8)) 28 v28) 10 v28) w (fun e2 next1 w => JoinC P (F80_p1 P next1) (fun j2 => Do P (binOp .geq 3 (e2 10) (Value.int .i64 0)) (fun v30 w => Cond v30 (@Eq (List Nat) [] [] ∧ j2 (upd (upd e2 29 (e2 10)) 30 v30) w) (K (Value.tuple #[]) w)) w))) w) (fun j1 => Do P (binOp .sub 3 v14 (Value.int .i64 1)) (fun v16 w => Do P (binOp .quo 3 v16 (Value.int .i64 2)) (fun v17 w => Loop [18, 19, 22, 23, 24, 25, 26, 20, 21, 9] (upd (upd (upd (upd (upd (upd (upd (upd (upd (upd (upd (env0 [v0, v1, v2]) 11 v1) 6 v1) 7 (Value.int .i64 0)) 12 v2) 13 v1) 14 v14) 8 v14) 15 v14) 16 v16) 17 v17) 9 v17) w (F80_p2 P j1)) w) w)) w

def H80 : Hints := [(10, true, false, [0, 0, 0, 0, 0, 1, 0, 0, 0, 0, 0, 0, 0, 0, 0, 0, 0, 0, 0, 0], .rd 0 true 0 (.rd 1 true 0 (.rd 2 true 0 (.rd 3 true 0 (.rd 4 true 0 (.rd 5 false 1 (.rd 6 true 0 (.rd 7 true 0 (.rd 8 true 0 (.rd 9 true 0 (.rd 10 true 0 (.rd 11 true 0 (.rd 12 true 0 (.rd 13 true 0 (.rd 14 false 0 (.rd 15 true 0 (.rd 16 true 0 (.ch 17 [1] (.rd 18 true 0 (.ch 19 [] (.done)))))))))))))))))))))]

theorem F80_eq (K : Value → World → Prop) (v0 v1 v2 : Value) (w : World) : F80 Tryd.prog K v0 v1 v2 w = pt Tryd.prog H80 none Tryd.f80.ntmps (bodyOf Tryd.f80) (RetQ Tryd.prog Tryd.f80.results K) (env0 [v0, v1, v2]) [] w := by kernel_rfl

theorem F80_ok : codeOk cvTryd H80 (bodyOf Tryd.f80) = true := by kernel_rfl

theorem F80_has : Tryd.f80.body.isSome = true ∧ Nat.ble 3 Tryd.f80.ntmps = true := ⟨by kernel_rfl, by kernel_rfl⟩

theorem F80_calls {K : Value → World → Prop} {v0 v1 v2 : Value} {w : World} (h : F80 Tryd.prog K v0 v1 v2 w) : Calls Tryd.prog 80 #[v0, v1, v2] w (Returns K) :=
  calls_of_eq (cv := cvTryd) (H := H80) (fn := Tryd.f80) (args := [v0, v1, v2]) mixedTryd Tryd.func80 F80_has F80_ok (F80_eq K v0 v1 v2 w) h

def F81_p1 (P : Program) (j2 : Env → World → Prop) (e4 : Env) (w : World) : Prop :=
  Drew (fun w => Draw (fun S1 w => RdS P (S1 1) (binOp .add 3 (e4 1) (e4 10)) (fun v52 => RdNow P (binOp .add 3 (e4 1) (e4 10)) w (fun v56 => RdNow P (Instr.indexAt 65 (e4 0) v56) w (fun v57 => RdNow P (Instr.loadAt 3 v57) w (fun v58 => RdS P (S1 0) (Instr.indexAt 65 (e4 0) (e4 9)) (fun v61 => RdNow P (Instr.loadAt 3 v61) w (fun v62 => RdNow P (Instr.indexAt 65 (e4 0) (e4 9)) w (fun v63 => Do P (Instr.storeAt 3 v63 v58) (fun _ w => S1 1 w ∧ (RdNow P (Instr.indexAt 65 (e4 0) v52) w (fun v64 => Do P (Instr.storeAt 3 v64 v62) (fun _ w => @Eq (List Nat) [] [] ∧ j2 (upd (upd (upd (upd (upd (upd (upd (upd (upd (upd (upd (upd (upd (upd (upd (upd (upd (upd e4 47 (e4 0)) 48 (e4 9)) 49 (e4 0)) 50 (e4 1)) 51 (e4 10)) 52 v52) 53 (e4 0)) 54 (e4 1)) 55 (e4 10)) 56 v56) 57 v57) 58 v58) 59 (e4 0)) 60 (e4 9)) 61 v61) 62 v62) 63 v63) 64 v64) w) w))) w)))))))) w) w

def F81_p2 (P : Program) (next1 : Env → World → Prop) (e2 : Env) (w : World) : Prop :=
  JoinC P (fun e3 w => Do P (binOp .add 3 (e3 9) (Value.int .i64 1)) (fun v35 w => @Eq (List Nat) [] [] ∧ next1 (upd (upd (upd e3 34 (e3 9)) 35 v35) 9 v35) w) w) (fun j2 => CallN P (callS (fnv 94) #[(e2 7)]) (fun v36 w => Do P (binOp .sub 143 (e2 8) (Value.int .u64 1)) (fun v38 w => Do P (binOp .and 143 v36 v38) (fun v39 w => Do P (convert 143 3 v39) (fun v40 w => JoinC P (F81_p1 P j2) (fun j3 => Do P (binOp .geq 3 v40 (e2 6)) (fun v43 w => Cond v43 (Do P (binOp .sub 3 v40 (e2 6)) (fun v46 w => @Eq (List Nat) [] [] ∧ j3 (upd (upd (upd (upd (upd (upd (upd (upd (upd (upd (upd (upd (upd e2 36 v36) 37 (e2 8)) 38 v38) 39 v39) 40 v40) 10 v40) 41 v40) 42 (e2 6)) 43 v43) 44 v40) 45 (e2 6)) 46 v46) 10 v46) w) w) (@Eq (List Nat) [] [] ∧ j3 (upd (upd (upd (upd (upd (upd (upd (upd (upd e2 36 v36) 37 (e2 8)) 38 v38) 39 v39) 40 v40) 10 v40) 41 v40) 42 (e2 6)) 43 v43) w)) w)) w) w) w) w)

/-- slices.breakPatternsOrdered[int] -/
def F81 (P : Program) (K : Value → World → Prop) (v0 v1 v2 : Value) (w : World) : Prop :=
  Do P (binOp .sub 3 v2 v1) (fun v13 w => Do P (binOp .geq 3 v13 (Value.int .i64 8)) (fun v15 w => Cond v15 (Do P (convert 3 166 v13) (fun v17 w => Do P (Instr.alloc 166 true (Value.tuple #[])) (fun v7 w => Do P (Instr.storeAt 166 v7 v17) (fun _ w => CallN P (callS (fnv 93) #[v13]) (fun v19 w => Do P (binOp .quo 3 v13 (Value.int .i64 4)) (fun v22 w => Do P (binOp .mul 3 v22 (Value.int .i64 2)) (fun v23 w => Do P (binOp .add 3 v1 v23) (fun v24 w => Do P (binOp .sub 3 v24 (Value.int .i64 1)) (fun v25 w => Loop [26, 27, 28, 29, 30, 31, 32, 33, 36, 37, 38, 39, 40, 10, 41, 42, 43, 44, 45, 46, 47, 48, 49, 50, 51, 52, 53, 54, 55, 56, 57, 58, 59, 60, 61, 62, 63, 64, 34, 35, 9] (upd (upd (upd (upd (upd (upd (upd (upd (upd (upd (upd (upd (upd (upd (upd (upd (upd (upd (upd (env0 [v0, v1, v2]) 11 v2) 12 v1) 13 v13) 6 v13) 14 v13) 15 v15) 16 v13) 17 v17) 7 v7) 18 v13) 19 v19) 8 v19) 20 v1) 21 v13) 22 v22) 23 v23) 24 v24) 25 v25) 9 v25) w (fun e1 next1 w => JoinC P (F81_p2 P next1) (fun j1 => Do P (binOp .quo 3 (e1 6) (Value.int .i64 4)) (fun v29 w => Do P (binOp .mul 3 v29 (Value.int .i64 2)) (fun v30 w => Do P (binOp .add 3 (e1 1) v30) (fun v31 w => Do P (binOp .add 3 v31 (Value.int .i64 1)) (fun v32 w => Do P (binOp .leq 3 (e1 9) v32) (fun v33 w => Cond v33 (@Eq (List Nat) [] [] ∧ j1 (upd (upd (upd (upd (upd (upd (upd (upd e1 26 (e1 9)) 27 (e1 1)) 28 (e1 6)) 29 v29) 30 v30) 31 v31) 32 v32) 33 v33) w) (K (Value.tuple #[]) w)) w) w) w) w) w))) w) w) w) w) w) w) w) w) (K (Value.tuple #[]) w)) w) w

def H81 : Hints := [(10, true, false, [0, 0, 0, 0, 0, 1, 0, 0, 0, 0, 0, 0, 0, 0, 0, 0, 0, 0, 0, 0], .rd 0 true 0 (.rd 1 true 0 (.rd 2 true 0 (.rd 3 true 0 (.rd 4 true 0 (.rd 5 false 1 (.rd 6 true 0 (.rd 7 true 0 (.rd 8 true 0 (.rd 9 true 0 (.rd 10 true 0 (.rd 11 true 0 (.rd 12 true 0 (.rd 13 true 0 (.rd 14 false 0 (.rd 15 true 0 (.rd 16 true 0 (.ch 17 [1] (.rd 18 true 0 (.ch 19 [] (.done)))))))))))))))))))))]

theorem F81_eq (K : Value → World → Prop) (v0 v1 v2 : Value) (w : World) : F81 Tryd.prog K v0 v1 v2 w = pt Tryd.prog H81 none Tryd.f81.ntmps (bodyOf Tryd.f81) (RetQ Tryd.prog Tryd.f81.results K) (env0 [v0, v1, v2]) [] w := by kernel_rfl

theorem F81_ok : codeOk cvTryd H81 (bodyOf Tryd.f81) = true := by kernel_rfl

theorem F81_has : Tryd.f81.body.isSome = true ∧ Nat.ble 3 Tryd.f81.ntmps = true := ⟨by kernel_rfl, by kernel_rfl⟩

theorem F81_calls {K : Value → World → Prop} {v0 v1 v2 : Value} {w : World} (h : F81 Tryd.prog K v0 v1 v2 w) : Calls Tryd.prog 81 #[v0, v1, v2] w (Returns K) :=
  calls_of_eq (cv := cvTryd) (H := H81) (fn := Tryd.f81) (args := [v0, v1, v2]) mixedTryd Tryd.func81 F81_has F81_ok (F81_eq K v0 v1 v2 w) h

/-- slices.choosePivotOrdered[int] -/
def F82 (P : Program) (K : Value → World → Prop) (v0 v1 v2 : Value) (w : World) : Prop :=
  Do P (binOp .sub 3 v2 v1) (fun v15 w => Do P (Instr.alloc 3 true (Value.tuple #[])) (fun v9 w => Do P (binOp .quo 3 v15 (Value.int .i64 4)) (fun v18 w => Do P (binOp .mul 3 v18 (Value.int .i64 1)) (fun v19 w => Do P (binOp .add 3 v1 v19) (fun v20 w => Do P (binOp .quo 3 v15 (Value.int .i64 4)) (fun v23 w => Do P (binOp .mul 3 v23 (Value.int .i64 2)) (fun v24 w => Do P (binOp .add 3 v1 v24) (fun v25 w => Do P (binOp .quo 3 v15 (Value.int .i64 4)) (fun v28 w => Do P (binOp .mul 3 v28 (Value.int .i64 3)) (fun v29 w => Do P (binOp .add 3 v1 v29) (fun v30 w => JoinC P (fun e1 w => Do P (Instr.loadAt 3 (e1 9)) (fun v49 w => Do P (eqS .eql 3 false true v49 (Value.int .i64 0)) (fun v52 w => Cond v52 (K (Value.tuple #[(e1 11), (Value.int .i64 1)]) w) (Do P (eqS .eql 3 false true v49 (Value.int .i64 12)) (fun v55 w => Cond v55 (K (Value.tuple #[(e1 11), (Value.int .i64 2)]) w) (K (Value.tuple #[(e1 11), (Value.int .i64 0)]) w)) w)) w) w) (fun j1 => Do P (binOp .geq 3 v15 (Value.int .i64 8)) (fun v32 w => Cond v32 (JoinC P (fun e2 w => CallN P (callS (fnv 96) #[(e2 0), (e2 10), (e2 11), (e2 12), (e2 9)]) (fun v48 w => @Eq (List Nat) [] [] ∧ j1 (upd (upd (upd (upd (upd (upd e2 44 (e2 0)) 45 (e2 10)) 46 (e2 11)) 47 (e2 12)) 48 v48) 11 v48) w) w) (fun j2 => Do P (binOp .geq 3 v15 (Value.int .i64 50)) (fun v34 w => Cond v34 (CallN P (callS (fnv 95) #[v0, v20, v9]) (fun v37 w => CallN P (callS (fnv 95) #[v0, v25, v9]) (fun v40 w => CallN P (callS (fnv 95) #[v0, v30, v9]) (fun v43 w => @Eq (List Nat) [] [] ∧ j2 (upd (upd (upd (upd (upd (upd (upd (upd (upd (upd (upd (upd (upd (upd (upd (upd (upd (upd (upd (upd (upd (upd (upd (upd (upd (upd (upd (upd (upd (upd (upd (upd (upd (upd (upd (upd (upd (upd (upd (upd (upd (env0 [v0, v1, v2]) 6 (Value.int .i64 0)) 7 (Value.int .i64 0)) 13 v2) 14 v1) 15 v15) 8 v15) 9 v9) 16 v1) 17 v15) 18 v18) 19 v19) 20 v20) 10 v20) 21 v1) 22 v15) 23 v23) 24 v24) 25 v25) 11 v25) 26 v1) 27 v15) 28 v28) 29 v29) 30 v30) 12 v30) 31 v15) 32 v32) 33 v15) 34 v34) 35 v0) 36 v20) 37 v37) 10 v37) 38 v0) 39 v25) 40 v40) 11 v40) 41 v0) 42 v30) 43 v43) 12 v43) w) w) w) w) (@Eq (List Nat) [] [] ∧ j2 (upd (upd (upd (upd (upd (upd (upd (upd (upd (upd (upd (upd (upd (upd (upd (upd (upd (upd (upd (upd (upd (upd (upd (upd (upd (upd (upd (upd (upd (env0 [v0, v1, v2]) 6 (Value.int .i64 0)) 7 (Value.int .i64 0)) 13 v2) 14 v1) 15 v15) 8 v15) 9 v9) 16 v1) 17 v15) 18 v18) 19 v19) 20 v20) 10 v20) 21 v1) 22 v15) 23 v23) 24 v24) 25 v25) 11 v25) 26 v1) 27 v15) 28 v28) 29 v29) 30 v30) 12 v30) 31 v15) 32 v32) 33 v15) 34 v34) w)) w)) (@Eq (List Nat) [] [] ∧ j1 (upd (upd (upd (upd (upd (upd (upd (upd (upd (upd (upd (upd (upd (upd (upd (upd (upd (upd (upd (upd (upd (upd (upd (upd (upd (upd (upd (env0 [v0, v1, v2]) 6 (Value.int .i64 0)) 7 (Value.int .i64 0)) 13 v2) 14 v1) 15 v15) 8 v15) 9 v9) 16 v1) 17 v15) 18 v18) 19 v19) 20 v20) 10 v20) 21 v1) 22 v15) 23 v23) 24 v24) 25 v25) 11 v25) 26 v1) 27 v15) 28 v28) 29 v29) 30 v30) 12 v30) 31 v15) 32 v32) w)) w)) w) w) w) w) w) w) w) w) w) w) w

def H82 : Hints := []

theorem F82_eq (K : Value → World → Prop) (v0 v1 v2 : Value) (w : World) : F82 Tryd.prog K v0 v1 v2 w = pt Tryd.prog H82 none Tryd.f82.ntmps (bodyOf Tryd.f82) (RetQ Tryd.prog Tryd.f82.results K) (env0 [v0, v1, v2]) [] w := by kernel_rfl

theorem F82_ok : codeOk cvTryd H82 (bodyOf Tryd.f82) = true := by kernel_rfl

theorem F82_has : Tryd.f82.body.isSome = true ∧ Nat.ble 3 Tryd.f82.ntmps = true := ⟨by kernel_rfl, by kernel_rfl⟩

theorem F82_calls {K : Value → World → Prop} {v0 v1 v2 : Value} {w : World} (h : F82 Tryd.prog K v0 v1 v2 w) : Calls Tryd.prog 82 #[v0, v1, v2] w (Returns K) :=
  calls_of_eq (cv := cvTryd) (H := H82) (fn := Tryd.f82) (args := [v0, v1, v2]) mixedTryd Tryd.func82 F82_has F82_ok (F82_eq K v0 v1 v2 w) h

end Go.Px
end
