import Derived.Test.YtmchcjaomcdbmaaGreatProg
import Derived.KernelRfl
import Derived.Test.YtmchcjaomcdbmaaGreatAbsC
/- What the machine comes to on each function, printed by program; each equation is checked by the kernel. -/
set_option linter.all false
set_option linter.deprecated false
namespace Go.Proofs.YtmchcjaomcdbmaaGreat.Gen
open Go Go.Proofs.YtmchcjaomcdbmaaGreat.Abs
def ZO:FuncId:=4
def Qad:FuncId:=12
def JC:FuncId:=13
def Za3:FuncId:=14
def JM:FuncId:=15
def Q6:FuncId:=16
def XI:FuncId:=17
def Xz:FuncId:=18
def Q7:FuncId:=20
def ZK:FuncId:=21
def Qac:FuncId:=22
def XO:FuncId:=23
def Zy:FuncId:=24
def QY:FuncId:=25
def X5:FuncId:=48
def ZG:FuncId:=51
def JP:FuncId:=52
def XA:FuncId:=53
def JL:FuncId:=54
def J3:FuncId:=55
def Jbl:FuncId:=56
def XaX:FuncId:=57
def XL:FuncId:=58
def Z0:FuncId:=59
def Zb4:FuncId:=60
def Jaa:FuncId:=61
def Xp:FuncId:=62
def Zo:FuncId:=63
def Zai:FuncId:=64
def QW:FuncId:=65
def Jai:FuncId:=66
def Zac:FuncId:=67
def Zv:FuncId:=68
def Jao:FuncId:=69
def QO:FuncId:=70
def ZaI:FuncId:=71
def Jab:FuncId:=72
def Zab:FuncId:=73
def Xao:FuncId:=74
def Xab:FuncId:=121
def ZQ:FuncId:=122
def Zaj:FuncId:=123
def Xbt:FuncId:=124
def Xr:FuncId:=125
def Jk:FuncId:=126
def Qag:FuncId:=127
def Jaz:FuncId:=128
def Xe:FuncId:=129
def Jbg:FuncId:=130
def Jv:FuncId:=131
def JaE:FuncId:=132
def Ql:FuncId:=133
def Xad:FuncId:=134
def QM:FuncId:=135
def JaJ:FuncId:=136
def Ja0:FuncId:=137
def Xm:FuncId:=138
def Jas:FuncId:=139
def Zah:FuncId:=140
def Qp:FuncId:=141
def ZV:FuncId:=142
def JN:FuncId:=143
def JF:FuncId:=144
def Xaa:FuncId:=147
def XU:FuncId:=148
def ZE:FuncId:=192
def Qaf:FuncId:=193
def ZaP:FuncId:=194
def JaB:FuncId:=195
def Zat:FuncId:=196
def ZbI:FuncId:=197
def XbB:FuncId:=198
def Xbn:FuncId:=199
def Jby:FuncId:=200
def Jah:FuncId:=201
def Xaq:FuncId:=202
def JaN:FuncId:=203
def Za1:FuncId:=204
def Jp:FuncId:=205
def Jae:FuncId:=206
def JV:FuncId:=207
def XW:FuncId:=208
def JO:FuncId:=209
def Xbl:FuncId:=210
def Qa4:FuncId:=211
def Xai:FuncId:=212
def XH:FuncId:=213
def ZM:FuncId:=214
def Jt:FuncId:=215
def Jag:FuncId:=216
def QF:FuncId:=217
def Zr:FuncId:=218
def Qt:FuncId:=219
def Qaj:FuncId:=220
def ZcU:FuncId:=221
def Qx:FuncId:=222
def Zaq:FuncId:=223
def Jw:FuncId:=224
def X4:FuncId:=225
def XaM:FuncId:=226
def Xo:FuncId:=227
def Js:FuncId:=228
def Qau:FuncId:=229
def Xf:FuncId:=271
def Xae:FuncId:=273
def Jaf:FuncId:=274
def Xan:FuncId:=275
def X8:FuncId:=276
def Zae:FuncId:=277
def Xaj:FuncId:=278
def QbD:FuncId:=279
def XQ:FuncId:=280
def QL:FuncId:=300
def JU:FuncId:=301
def Za5:FuncId:=314
def QC (C:CT) (K:Cont) (I_l1:Qn) (t:Env) (g:G) (n:Nat):Prop:=
Xb .int .lss (t 8) (.int .i64 6) fun v133=>
Qa v133 (
Qe (t 3) fun l138 o138=>
kLd g l138 (o138+1) fun v139=>
Qe (t 3) fun l140 o140=>
kLd g l140 (o140+2) fun v141=>
Qe (t 3) fun l142 o142=>
kLd g l142 (o142+3) fun v143=>
C XI [t 5,v139,v141,v143] g n fun v144 g22 n144=>
Xd v144 0 fun v145=>
Xd v144 1 fun v146=>
Qa v146 (
Qe (t 3) fun l149 o149=>
kLd g22 l149 (o149+4) fun v150=>
Xb .int .eql v145 v150 fun v151=>
Qa v151 (
Qe (t 3) fun l154 o154=>
kLd g22 l154 (o154+2) fun v155=>
C Zy [t 5,v155] g22 n144 fun v156 g23 n156=>
Jl v156 fun c157=>
XaH c157 1 none fun v157=>
kUn .not v157 fun v158=>
Qa v158 (
C JC [] g23 n156 fun v161 g24 n161=>
Qc K v161 g24 n161) (
Qc K (.bool false) g23 n156)) (
Qc K (.bool false) g22 n144)) (
Qe (t 2) fun l164 o164=>
Zn g22 l164 o164 7 fun c164=>
C Xz [t 5,.agg c164.toArray] g22 n144 fun v165 g25 n165=>
Xb .int .add (t 8) (.int .i64 1) fun v135=>
I_l1 (puts t [(132,t 8),(133,v133),(137,t 5),(138,(ptr l138 (o138+1))),(139,v139),(140,(ptr l140 (o140+2))),(141,v141),(142,(ptr l142 (o142+3))),(143,v143),(144,v144),(136,v144),(145,v145),(146,v146),(9,v145),(10,v146),(147,v146),(163,t 5),(164,.agg c164.toArray),(165,v165),(134,t 8),(135,v135),(8,v135)]) g25 n165)) (
Qc K (.bool false) g n)
def Qar (C:CT) (a0 a1:Value) (g:G) (n:Nat) (K:Cont):Prop:=
Jl a0 fun c2=>
Zw c2 .exact g n fun l2 g1 n2=>
Jl a1 fun c3=>
Zw c3 .exact g1 n2 fun l3 g2 n3=>
Zn g2 l2 0 7 fun c11=>
C Qad [.agg c11.toArray] g2 n3 fun v12 g3 n12=>
kUn .not v12 fun v13=>
Qa v13 (
C JC [] g3 n12 fun v19 g4 n19=>
Qc K v19 g4 n19) (
kLd g3 l2 (0+1) fun v16=>
Xb .int .gtr v16 (.int .i64 12) fun v17=>
Qa v17 (
C JC [] g3 n12 fun v19 g5 n19=>
Qc K v19 g5 n19) (
Zn g3 l2 0 7 fun c21=>
C Za3 [.agg c21.toArray,.slice none 0 0] g3 n12 fun v22 g6 n22=>
Xd v22 0 fun v23=>
Xd v22 1 fun v24=>
Xb .int .neq v24 (.int .i64 0) fun v26=>
Qa v26 (
Qc K (.bool false) g6 n22) (
Xb .ptr .eql v23 (.pointer none) fun v29=>
Qa v29 (
Qc K (.bool false) g6 n22) (
kLd g6 l3 (0+1) fun v32=>
kLd g6 l2 (0+0) fun v34=>
kLd g6 l3 (0+2) fun v37=>
kLd g6 l2 (0+1) fun v39=>
kLd g6 l3 (0+3) fun v42=>
kLd g6 l3 (0+4) fun v45=>
C JM [v32,v34] g6 n22 fun v35 g7 n35=>
(Qe (ptr l3 (0+2)) fun l _=>g7 l=g6 l)∧(Qe (ptr l2 (0+1)) fun l _=>g7 l=g6 l)∧(Qe (ptr l3 (0+3)) fun l _=>g7 l=g6 l)∧(Qe (ptr l3 (0+4)) fun l _=>g7 l=g6 l)∧C JM [v37,v39] g7 n35 fun v40 g8 n40=>
(Qe (ptr l3 (0+3)) fun l _=>g8 l=g7 l)∧(Qe (ptr l3 (0+4)) fun l _=>g8 l=g7 l)∧C JM [v42,.int .i64 8] g8 n40 fun v43 g9 n43=>
(Qe (ptr l3 (0+4)) fun l _=>g9 l=g8 l)∧Xk [.int .i64 0,.int .i64 0,.int .i64 0,.int .i64 0,.int .u64 0] [(1,none,v35),(2,none,v40),(3,none,v43),(4,none,v45)] fun c46=>
Jl (.agg c46.toArray) fun cg10=>
cg10.length=5∧Xw g9 l3 0 cg10 fun g10=>
kLd g10 l3 (0+2) fun v49=>
C ZK [v23,v49] g10 n43 fun v50 g11 n50=>
Xb .int .neq v50 (.int .i64 16) fun v51=>
Qa v51 (
Qc K (.bool false) g11 n50) (
Zn g11 l2 0 7 fun c54=>
Zn g11 l3 0 5 fun c55=>
C Q6 [v23,.agg c54.toArray,.agg c55.toArray] g11 n50 fun v56 g12 n56=>
kUn .not v56 fun v57=>
Qa v57 (
Qc K (.bool false) g12 n56) (
kLd g12 l3 (0+2) fun v62=>
C ZK [v23,v62] g12 n56 fun v63 g13 n63=>
Xb .int .neq v63 (.int .i64 16) fun v64=>
Qa v64 (
Qc K (.bool false) g13 n63) (
kLd g13 l3 (0+1) fun v69=>
kLd g13 l3 (0+2) fun v71=>
C Qac [v23,v69,v71] g13 n63 fun v72 g14 n72=>
Xb .int .neq v72 (.int .i64 0) fun v73=>
Qa v73 (
Qc K (.bool false) g14 n72) (
Zn g14 l2 0 7 fun c76=>
C Xz [v23,.agg c76.toArray] g14 n72 fun v77 g15 n77=>
kLd g15 l3 (0+1) fun v80=>
C XO [v23,v80] g15 n77 fun v81 g16 n81=>
ZaH v81 fun v82=>
Xb .int .neq v82 (.int .i64 0) fun v83=>
Qa v83 (
Qc K (.bool false) g16 n81) (
kLd g16 l3 (0+2) fun v87=>
C Zy [v23,v87] g16 n81 fun v88 g17 n88=>
Jl v88 fun c89=>
XaH c89 1 none fun v89=>
kUn .not v89 fun v90=>
Qa v90 (
Qc K (.bool false) g17 n88) (
kLd g17 l3 (0+2) fun v95=>
C ZK [v23,v95] g17 n88 fun v96 g18 n96=>
Xb .int .neq v96 (.int .i64 0) fun v97=>
Qa v97 (
Qc K (.bool false) g18 n96) (
kLd g18 l3 (0+2) fun v102=>
C Zy [v23,v102] g18 n96 fun v103 g19 n103=>
Jl v103 fun c104=>
XaH c104 0 none fun v104=>
Qa v104 (
Qc K (.bool false) g19 n103) (
C Q7 [v23] g19 n103 fun v107 g20 n107=>
ZaH v107 fun v109=>
kLd g20 l2 (0+1) fun v111=>
Xb .int .neq v109 v111 fun v112=>
Qa v112 (
Qc K (.bool false) g20 n107) (
kLd g20 l3 (0+2) fun v116=>
kLd g20 l3 (0+3) fun v118=>
Jc v107 v116 8 fun v119=>
ZD v119 v118 8 1 fun v120=>
Qe v120 fun l121 o121=>
kLd g20 l121 o121 fun v121=>
kLd g20 l3 (0+4) fun v123=>
Xb .int .neq v121 v123 fun v124=>
Qa v124 (
Qc K (.bool false) g20 n107) (
C QY [v23] g20 n107 fun v128 g21 n128=>
ZaH v128 fun v129=>
Xb .int .neq v129 (.int .i64 1) fun v130=>
Qa v130 (
Qc K (.bool false) g21 n128) (
lfp (QC C K) (puts (Qq [a0,a1]) [(2,ptr l2 0),(3,ptr l3 0),(4,.bool false),(11,.agg c11.toArray),(12,v12),(13,v13),(14,.bool false),(15,(ptr l2 (0+1))),(16,v16),(17,v17),(18,v17),(21,.agg c21.toArray),(22,v22),(20,v22),(23,v23),(24,v24),(5,v23),(6,v24),(25,v24),(26,v26),(27,.bool false),(28,v23),(29,v29),(30,v29),(31,(ptr l3 (0+1))),(32,v32),(33,(ptr l2 (0+0))),(34,v34),(36,(ptr l3 (0+2))),(37,v37),(38,(ptr l2 (0+1))),(39,v39),(41,(ptr l3 (0+3))),(42,v42),(44,(ptr l3 (0+4))),(45,v45),(35,v35),(40,v40),(43,v43),(46,.agg c46.toArray),(47,v23),(48,(ptr l3 (0+2))),(49,v49),(50,v50),(51,v51),(52,.bool false),(53,v23),(54,.agg c54.toArray),(55,.agg c55.toArray),(56,v56),(57,v57),(58,v57),(59,.bool false),(60,v23),(61,(ptr l3 (0+2))),(62,v62),(63,v63),(64,v64),(65,v64),(66,.bool false),(67,v23),(68,(ptr l3 (0+1))),(69,v69),(70,(ptr l3 (0+2))),(71,v71),(72,v72),(73,v73),(74,v73),(75,v23),(76,.agg c76.toArray),(77,v77),(78,v23),(79,(ptr l3 (0+1))),(80,v80),(81,v81),(82,v82),(83,v83),(84,.bool false),(85,v23),(86,(ptr l3 (0+2))),(87,v87),(88,v88),(89,v89),(90,v90),(91,v90),(92,.bool false),(93,v23),(94,(ptr l3 (0+2))),(95,v95),(96,v96),(97,v97),(98,v97),(99,.bool false),(100,v23),(101,(ptr l3 (0+2))),(102,v102),(103,v103),(104,v104),(105,v104),(106,v23),(107,v107),(7,v107),(108,v107),(109,v109),(110,(ptr l2 (0+1))),(111,v111),(112,v112),(113,.bool false),(114,v107),(115,(ptr l3 (0+2))),(116,v116),(117,(ptr l3 (0+3))),(118,v118),(119,v119),(120,v120),(121,v121),(122,(ptr l3 (0+4))),(123,v123),(124,v124),(125,v124),(126,.bool false),(127,v23),(128,v128),(129,v129),(130,v130),(131,v130),(8,.int .i64 0)]) g21 n128)))))))))))))))
theorem XaO (C:CT) (a0 a1:Value) (g:G) (n:Nat) (K:Cont):Qar C a0 a1 g n K=Zg Tryz.prog C ZO [a0,a1] g n K:=by kernel_rfl
def ZaQ (C:CT) (a0:Value) (g:G) (n:Nat) (K:Cont):Prop:=
Jl a0 fun c1=>
Zw c1 .exact g n fun l1 g1 n1=>
kLd g1 l1 (0+0) fun v4=>
Xb .int .geq v4 (.int .i64 1) fun v5=>
Qa v5 (
kLd g1 l1 (0+0) fun v8=>
Xb .int .leq v8 (.int .i64 8) fun v9=>
Qa v9 (
kLd g1 l1 (0+1) fun v13=>
Xb .int .geq v13 (.int .i64 2) fun v14=>
Qa v14 (
kLd g1 l1 (0+1) fun v18=>
Xb .int .leq v18 (.int .i64 64) fun v19=>
Qa v19 (
kLd g1 l1 (0+2) fun v23=>
Xb .int .geq v23 (.int .i64 1) fun v24=>
Qa v24 (
kLd g1 l1 (0+2) fun v28=>
kLd g1 l1 (0+1) fun v30=>
Xb .int .lss v28 v30 fun v31=>
Qa v31 (
kLd g1 l1 (0+3) fun v35=>
Xb .int .eql v35 (.int .i64 1) fun v36=>
Qa v36 (
kLd g1 l1 (0+4) fun v55=>
Xb .int .geq v55 (.int .i64 1) fun v56=>
Qa v56 (
kLd g1 l1 (0+4) fun v60=>
Xb .int .leq v60 (.int .i64 8) fun v61=>
Qa v61 (
kLd g1 l1 (0+5) fun v65=>
Xb .int .geq v65 (.int .i64 1) fun v66=>
Qa v66 (
kLd g1 l1 (0+5) fun v70=>
Xb .int .leq v70 (.int .i64 16) fun v71=>
Qa v71 (
kLd g1 l1 (0+6) fun v75=>
Xb .int .geq v75 (.int .i64 1) fun v76=>
Qa v76 (
kLd g1 l1 (0+6) fun v80=>
Xb .int .leq v80 (.int .i64 16) fun v81=>
Qc K v81 g1 n1) (
Qc K (.bool false) g1 n1)) (
Qc K (.bool false) g1 n1)) (
Qc K (.bool false) g1 n1)) (
Qc K (.bool false) g1 n1)) (
Qc K (.bool false) g1 n1)) (
kLd g1 l1 (0+3) fun v39=>
Xb .int .eql v39 (.int .i64 2) fun v40=>
Qa v40 (
kLd g1 l1 (0+4) fun v55=>
Xb .int .geq v55 (.int .i64 1) fun v56=>
Qa v56 (
kLd g1 l1 (0+4) fun v60=>
Xb .int .leq v60 (.int .i64 8) fun v61=>
Qa v61 (
kLd g1 l1 (0+5) fun v65=>
Xb .int .geq v65 (.int .i64 1) fun v66=>
Qa v66 (
kLd g1 l1 (0+5) fun v70=>
Xb .int .leq v70 (.int .i64 16) fun v71=>
Qa v71 (
kLd g1 l1 (0+6) fun v75=>
Xb .int .geq v75 (.int .i64 1) fun v76=>
Qa v76 (
kLd g1 l1 (0+6) fun v80=>
Xb .int .leq v80 (.int .i64 16) fun v81=>
Qc K v81 g1 n1) (
Qc K (.bool false) g1 n1)) (
Qc K (.bool false) g1 n1)) (
Qc K (.bool false) g1 n1)) (
Qc K (.bool false) g1 n1)) (
Qc K (.bool false) g1 n1)) (
kLd g1 l1 (0+3) fun v44=>
Xb .int .eql v44 (.int .i64 4) fun v45=>
Qa v45 (
kLd g1 l1 (0+4) fun v55=>
Xb .int .geq v55 (.int .i64 1) fun v56=>
Qa v56 (
kLd g1 l1 (0+4) fun v60=>
Xb .int .leq v60 (.int .i64 8) fun v61=>
Qa v61 (
kLd g1 l1 (0+5) fun v65=>
Xb .int .geq v65 (.int .i64 1) fun v66=>
Qa v66 (
kLd g1 l1 (0+5) fun v70=>
Xb .int .leq v70 (.int .i64 16) fun v71=>
Qa v71 (
kLd g1 l1 (0+6) fun v75=>
Xb .int .geq v75 (.int .i64 1) fun v76=>
Qa v76 (
kLd g1 l1 (0+6) fun v80=>
Xb .int .leq v80 (.int .i64 16) fun v81=>
Qc K v81 g1 n1) (
Qc K (.bool false) g1 n1)) (
Qc K (.bool false) g1 n1)) (
Qc K (.bool false) g1 n1)) (
Qc K (.bool false) g1 n1)) (
Qc K (.bool false) g1 n1)) (
kLd g1 l1 (0+3) fun v49=>
Xb .int .eql v49 (.int .i64 8) fun v50=>
Qa v50 (
kLd g1 l1 (0+4) fun v55=>
Xb .int .geq v55 (.int .i64 1) fun v56=>
Qa v56 (
kLd g1 l1 (0+4) fun v60=>
Xb .int .leq v60 (.int .i64 8) fun v61=>
Qa v61 (
kLd g1 l1 (0+5) fun v65=>
Xb .int .geq v65 (.int .i64 1) fun v66=>
Qa v66 (
kLd g1 l1 (0+5) fun v70=>
Xb .int .leq v70 (.int .i64 16) fun v71=>
Qa v71 (
kLd g1 l1 (0+6) fun v75=>
Xb .int .geq v75 (.int .i64 1) fun v76=>
Qa v76 (
kLd g1 l1 (0+6) fun v80=>
Xb .int .leq v80 (.int .i64 16) fun v81=>
Qc K v81 g1 n1) (
Qc K (.bool false) g1 n1)) (
Qc K (.bool false) g1 n1)) (
Qc K (.bool false) g1 n1)) (
Qc K (.bool false) g1 n1)) (
Qc K (.bool false) g1 n1)) (
Qc K (.bool false) g1 n1))))) (
Qc K (.bool false) g1 n1)) (
Qc K (.bool false) g1 n1)) (
Qc K (.bool false) g1 n1)) (
Qc K (.bool false) g1 n1)) (
Qc K (.bool false) g1 n1)) (
Qc K (.bool false) g1 n1)
theorem Qbw (C:CT) (a0:Value) (g:G) (n:Nat) (K:Cont):ZaQ C a0 g n K=Zg Tryz.prog C Qad [a0] g n K:=by kernel_rfl
def ZaJ (C:CT) (g:G) (n:Nat) (K:Cont):Prop:=
C X5 [] g n fun v8 g1 n8=>
C Za3 [v8,.slice none 0 0] g1 n8 fun v9 g2 n9=>
Xd v9 0 fun v10=>
Xd v9 1 fun v11=>
Xb .int .neq v11 (.int .i64 0) fun v13=>
Qa v13 (
Qc K (.bool false) g2 n9) (
Xb .ptr .eql v10 (.pointer none) fun v16=>
Qa v16 (
Qc K (.bool false) g2 n9) (
C ZG [v10,.int .i64 0,.int .i64 3,.int .i64 1,.int .u64 7] g2 n9 fun v20 g3 n20=>
Qa v20 (
Qc K (.bool false) g3 n20) (
C JP [v10,.int .i64 0] g3 n20 fun v24 g4 n24=>
Xb .int .neq v24 (.int .i64 0) fun v25=>
Qa v25 (
Qc K (.bool false) g4 n24) (
C XA [v10,.int .i64 0] g4 n24 fun v29 g5 n29=>
Xd v29 0 fun v30=>
Xd v29 1 fun v31=>
Zw [.int .i64 0,.int .i64 0,.bool false,.bool false,.int .u64 0,.int .u64 0,.int .u64 0,.int .u64 0,.int .u64 0,.int .u64 0,.int .u64 0,.int .u64 0] .exact g5 n29 fun l3 g6 n3=>
Jl v30 fun cg7=>
cg7.length=12∧Xw g6 l3 0 cg7 fun g7=>
Xb .int .neq v31 (.int .i64 0) fun v33=>
Qa v33 (
Qc K (.bool false) g7 n3) (
kLd g7 l3 (0+0) fun v36=>
Xb .int .neq v36 (.int .i64 10) fun v37=>
Qa v37 (
Qc K (.bool false) g7 n3) (
C ZG [v10,.int .i64 0,.int .i64 3,.int .i64 1,.int .u64 7] g7 n3 fun v41 g8 n41=>
kUn .not v41 fun v42=>
Qa v42 (
Qc K (.bool false) g8 n41) (
C XI [v10,.int .i64 1,.int .i64 3,.int .i64 1] g8 n41 fun v45 g9 n45=>
C JP [v10,.int .i64 1] g9 n45 fun v47 g10 n47=>
C XA [v10,.int .i64 0] g10 n47 fun v49 g11 n49=>
C JL [v10,.int .i64 0] g11 n49 fun v51 g12 n51=>
C XA [v10,.int .i64 1] g12 n51 fun v53 g13 n53=>
C XI [v10,.int .i64 1,.int .i64 3,.int .i64 1] g13 n53 fun v56 g14 n56=>
Xd v56 0 fun v57=>
Xd v56 1 fun v58=>
Qa v58 (
Xb .int .eql v57 (.int .u64 7) fun v62=>
Qa v62 (
C Zy [v10,.int .i64 3] g14 n56 fun v66 g15 n66=>
Jl v66 fun c67=>
XaH c67 11 none fun v67=>
Xb .int .eql v67 (.int .u8 3) fun v68=>
Qa v68 (
C XO [v10,.int .i64 0] g15 n66 fun v72 g16 n72=>
ZaH v72 fun v73=>
Xb .int .eql v73 (.int .i64 1) fun v74=>
Qa v74 (
C J3 [v10] g16 n72 fun v78 g17 n78=>
Jl v78 fun c79=>
XaH c79 0 none fun v79=>
Xb .int .eql v79 (.int .i64 2) fun v80=>
Qc K v80 g17 n78) (
Qc K (.bool false) g16 n72)) (
Qc K (.bool false) g15 n66)) (
Qc K (.bool false) g14 n56)) (
Qc K (.bool false) g14 n56))))))))
theorem Qbf (C:CT) (g:G) (n:Nat) (K:Cont):ZaJ C g n K=Zg Tryz.prog C JC [] g n K:=by kernel_rfl
def J2 (C:CT) (K:Cont) (t:Env) (g:G) (n:Nat):Prop:=
Qe (t 2) fun l46 o46=>
kLd g l46 (o46+5) fun v47=>
C Zb4 [t 6,v47] g n fun v48 g6 n48=>
Xd v48 0 fun v49=>
Xd v48 1 fun v50=>
Xb .int .neq v50 (.int .i64 0) fun v52=>
Qa v52 (
Qc K (.tuple #[.pointer none,v50]) g6 n48) (
Qe (t 2) fun l54 o54=>
Zn g6 l54 o54 7 fun c54=>
Xk [.int .i64 0,.int .i64 0,.int .i64 0,.int .i64 0,.int .i64 0,.int .i64 0,.int .i64 0,.slice none 0 0,.slice none 0 0,.pointer none,.int .i64 0] [(0,some 7,.agg c54.toArray),(9,none,v49)] fun c56=>
Jl (.agg c56.toArray) fun c57=>
Zw c57 .exact g6 n48 fun l57 g7 n57=>
C Jaa [ptr l57 0] g7 n57 fun v59 g8 n59=>
Qc K (.tuple #[ptr l57 0,.int .i64 0]) g8 n59)
def Jd4 (C:CT) (a0 a1:Value) (g:G) (n:Nat) (K:Cont):Prop:=
Jl a0 fun c2=>
Zw c2 .exact g n fun l2 g1 n2=>
Zn g1 l2 0 7 fun c10=>
C Jbl [.agg c10.toArray] g1 n2 fun v11 g2 n11=>
kUn .not v11 fun v12=>
Qa v12 (
Qc K (.tuple #[.pointer none,.int .i64 1]) g2 n11) (
ZaH a1 fun v15=>
Xb .int .neq v15 (.int .i64 0) fun v16=>
Qa v16 (
ZaH a1 fun v19=>
kLd g2 l2 (0+1) fun v21=>
Xb .int .neq v19 v21 fun v22=>
Qa v22 (
Qc K (.tuple #[.pointer none,.int .i64 1]) g2 n11) (
kLd g2 l2 (0+1) fun v27=>
kLd g2 l2 (0+2) fun v29=>
C XaX [v27,v29] g2 n11 fun v30 g3 n30=>
Xd v30 0 fun v31=>
Xd v30 1 fun v32=>
Xb .int .neq v32 (.int .i64 0) fun v34=>
Qa v34 (
Qc K (.tuple #[.pointer none,v32]) g3 n30) (
ZaH a1 fun v37=>
Xb .int .gtr v37 (.int .i64 0) fun v38=>
Qa v38 (
C XL [v31,a1] g3 n30 fun v41 g4 n41=>
C Z0 [v31] g4 n41 fun v43 g5 n43=>
J2 C K (puts (Qq [a0,a1]) [(2,ptr l2 0),(4,.pointer none),(5,.int .i64 0),(10,.agg c10.toArray),(11,v11),(12,v12),(13,.bool false),(14,a1),(15,v15),(16,v16),(17,.bool true),(18,a1),(19,v19),(20,(ptr l2 (0+1))),(21,v21),(22,v22),(23,v22),(24,v22),(26,(ptr l2 (0+1))),(27,v27),(28,(ptr l2 (0+2))),(29,v29),(30,v30),(25,v30),(31,v31),(32,v32),(6,v31),(7,v32),(33,v32),(34,v34),(36,a1),(37,v37),(38,v38),(39,v31),(40,a1),(41,v41),(42,v31),(43,v43)]) g5 n43) (
J2 C K (puts (Qq [a0,a1]) [(2,ptr l2 0),(4,.pointer none),(5,.int .i64 0),(10,.agg c10.toArray),(11,v11),(12,v12),(13,.bool false),(14,a1),(15,v15),(16,v16),(17,.bool true),(18,a1),(19,v19),(20,(ptr l2 (0+1))),(21,v21),(22,v22),(23,v22),(24,v22),(26,(ptr l2 (0+1))),(27,v27),(28,(ptr l2 (0+2))),(29,v29),(30,v30),(25,v30),(31,v31),(32,v32),(6,v31),(7,v32),(33,v32),(34,v34),(36,a1),(37,v37),(38,v38)]) g3 n30)))) (
kLd g2 l2 (0+1) fun v27=>
kLd g2 l2 (0+2) fun v29=>
C XaX [v27,v29] g2 n11 fun v30 g9 n30=>
Xd v30 0 fun v31=>
Xd v30 1 fun v32=>
Xb .int .neq v32 (.int .i64 0) fun v34=>
Qa v34 (
Qc K (.tuple #[.pointer none,v32]) g9 n30) (
ZaH a1 fun v37=>
Xb .int .gtr v37 (.int .i64 0) fun v38=>
Qa v38 (
C XL [v31,a1] g9 n30 fun v41 g10 n41=>
C Z0 [v31] g10 n41 fun v43 g11 n43=>
J2 C K (puts (Qq [a0,a1]) [(2,ptr l2 0),(4,.pointer none),(5,.int .i64 0),(10,.agg c10.toArray),(11,v11),(12,v12),(13,.bool false),(14,a1),(15,v15),(16,v16),(17,.bool false),(18,undef),(19,undef),(20,undef),(21,undef),(22,undef),(23,.bool false),(24,.bool false),(26,(ptr l2 (0+1))),(27,v27),(28,(ptr l2 (0+2))),(29,v29),(30,v30),(25,v30),(31,v31),(32,v32),(6,v31),(7,v32),(33,v32),(34,v34),(36,a1),(37,v37),(38,v38),(39,v31),(40,a1),(41,v41),(42,v31),(43,v43)]) g11 n43) (
J2 C K (puts (Qq [a0,a1]) [(2,ptr l2 0),(4,.pointer none),(5,.int .i64 0),(10,.agg c10.toArray),(11,v11),(12,v12),(13,.bool false),(14,a1),(15,v15),(16,v16),(17,.bool false),(18,undef),(19,undef),(20,undef),(21,undef),(22,undef),(23,.bool false),(24,.bool false),(26,(ptr l2 (0+1))),(27,v27),(28,(ptr l2 (0+2))),(29,v29),(30,v30),(25,v30),(31,v31),(32,v32),(6,v31),(7,v32),(33,v32),(34,v34),(36,a1),(37,v37),(38,v38)]) g9 n30))))
theorem XdP (C:CT) (a0 a1:Value) (g:G) (n:Nat) (K:Cont):Jd4 C a0 a1 g n K=Zg Tryz.prog C Za3 [a0,a1] g n K:=by kernel_rfl
def Xbm (C:CT) (a0 a1:Value) (g:G) (n:Nat) (K:Cont):Prop:=
Xb .int .lss a1 (.int .i64 1) fun v6=>
Qa v6 (
Qc K (.int .i64 0) g n) (
Xb .int .rem a0 a1 fun v9=>
Xb .int .add v9 a1 fun v11=>
Xb .int .rem v11 a1 fun v13=>
Qc K v13 g n)
theorem ZbM (C:CT) (a0 a1:Value) (g:G) (n:Nat) (K:Cont):Xbm C a0 a1 g n K=Zg Tryz.prog C JM [a0,a1] g n K:=by kernel_rfl
def Jau (C:CT) (K:Cont) (I_l1:Qn) (t:Env) (g:G) (n:Nat):Prop:=
Xb .int .lss (t 7) (.int .i64 12) fun v9=>
Qa v9 (
Qe (t 5) fun l13 o13=>
kLd g l13 (o13+1) fun v14=>
Qe (t 5) fun l15 o15=>
kLd g l15 (o15+2) fun v16=>
Qe (t 5) fun l17 o17=>
kLd g l17 (o17+3) fun v18=>
Qe (t 5) fun l19 o19=>
kLd g l19 (o19+4) fun v20=>
C ZG [t 0,v14,v16,v18,v20] g n fun v21 g3 n21=>
Qa v21 (
Qc K (.bool true) g3 n21) (
Qe (t 4) fun l23 o23=>
Zn g3 l23 o23 7 fun c23=>
C Xz [t 0,.agg c23.toArray] g3 n21 fun v24 g4 n24=>
Xb .int .add (t 7) (.int .i64 1) fun v11=>
I_l1 (puts t [(8,t 7),(9,v9),(12,t 0),(13,(ptr l13 (o13+1))),(14,v14),(15,(ptr l15 (o15+2))),(16,v16),(17,(ptr l17 (o17+3))),(18,v18),(19,(ptr l19 (o19+4))),(20,v20),(21,v21),(22,t 0),(23,.agg c23.toArray),(24,v24),(10,t 7),(11,v11),(7,v11)]) g4 n24)) (
Qc K (.bool false) g n)
def QaK (C:CT) (a0 a1 a2:Value) (g:G) (n:Nat) (K:Cont):Prop:=
Jl a1 fun c4=>
Zw c4 .exact g n fun l4 g1 n4=>
Jl a2 fun c5=>
Zw c5 .exact g1 n4 fun l5 g2 n5=>
lfp (Jau C K) (puts (Qq [a0,a1,a2]) [(4,ptr l4 0),(5,ptr l5 0),(6,.bool false),(7,.int .i64 0)]) g2 n5
theorem Xbf (C:CT) (a0 a1 a2:Value) (g:G) (n:Nat) (K:Cont):QaK C a0 a1 a2 g n K=Zg Tryz.prog C Q6 [a0,a1,a2] g n K:=by kernel_rfl
def Qa9 (C:CT) (a0 a1 a2 a3:Value) (g:G) (n:Nat) (K:Cont):Prop:=
C Xp [a0,a1] g n fun v16 g1 n16=>
Xb .ptr .eql v16 (.pointer none) fun v18=>
Qa v18 (
Qc K (.tuple #[.int .u64 0,.bool false]) g1 n16) (
C Zo [a0,a2] g1 n16 fun v22 g2 n22=>
kUn .not v22 fun v23=>
Qa v23 (
Qc K (.tuple #[.int .u64 0,.bool false]) g2 n22) (
Qo v16 fun v27=>
Qe v27 fun l28 o28=>
kLd g2 l28 (o28+0) fun v29=>
C Zai [v29,a2,a3] g2 n22 fun v32 g3 n32=>
Xd v32 0 fun v33=>
Xd v32 1 fun v34=>
Xd v32 2 fun v35=>
C QW [v16,v35] g3 n32 fun v38 g4 n38=>
Qc K (.tuple #[v33,v34]) g4 n38))
theorem JbB (C:CT) (a0 a1 a2 a3:Value) (g:G) (n:Nat) (K:Cont):Qa9 C a0 a1 a2 a3 g n K=Zg Tryz.prog C XI [a0,a1,a2,a3] g n K:=by kernel_rfl
def ZY (C:CT) (K:Cont) (I_l1:Qn) (t:Env) (g:G) (n:Nat):Prop:=
Xb .int .add (t 4) (.int .i64 1) fun v10=>
I_l1 (puts t [(9,t 4),(10,v10),(4,v10)]) g n
def Zar (C:CT) (K:Cont) (I_l1:Qn) (I_l4:Qn) (t:Env) (g:G) (n:Nat):Prop:=
Qe (t 3) fun l27 o27=>
kLd g l27 (o27+1) fun v28=>
Xb .int .lss (t 6) v28 fun v29=>
Qa v29 (
C Jai [t 0,t 6] g n fun v34 g5 n34=>
C Zac [t 0,t 6] g5 n34 fun v37 g6 n37=>
Xb .int .add (t 6) (.int .i64 1) fun v31=>
I_l4 (puts t [(26,t 6),(27,(ptr l27 (o27+1))),(28,v28),(29,v29),(32,t 0),(33,t 6),(34,v34),(35,t 0),(36,t 6),(37,v37),(30,t 6),(31,v31),(6,v31)]) g6 n37) (
ZY C K I_l1 (puts t [(26,t 6),(27,(ptr l27 (o27+1))),(28,v28),(29,v29)]) g n)
def JX (C:CT) (K:Cont) (I_l1:Qn) (t:Env) (g:G) (n:Nat):Prop:=
lfp (Zar C K I_l1) (puts t [(6,.int .i64 0)]) g n
def Jar (C:CT) (K:Cont) (I_l1:Qn) (I_l2:Qn) (t:Env) (g:G) (n:Nat):Prop:=
Qe (t 3) fun l12 o12=>
kLd g l12 (o12+0) fun v13=>
Xb .int .lss (t 5) v13 fun v14=>
Qa v14 (
C JP [t 0,t 5] g n fun v19 g2 n19=>
C JL [t 0,t 5] g2 n19 fun v22 g3 n22=>
C XA [t 0,t 5] g3 n22 fun v25 g4 n25=>
Xb .int .add (t 5) (.int .i64 1) fun v16=>
I_l2 (puts t [(11,t 5),(12,(ptr l12 (o12+0))),(13,v13),(14,v14),(17,t 0),(18,t 5),(19,v19),(20,t 0),(21,t 5),(22,v22),(23,t 0),(24,t 5),(25,v25),(15,t 5),(16,v16),(5,v16)]) g4 n25) (
JX C K I_l1 (puts t [(11,t 5),(12,(ptr l12 (o12+0))),(13,v13),(14,v14)]) g n)
def Xar (C:CT) (K:Cont) (I_l1:Qn) (t:Env) (g:G) (n:Nat):Prop:=
Xb .int .lss (t 4) (.int .i64 6) fun v8=>
Qa v8 (
lfp (Jar C K I_l1) (puts t [(7,t 4),(8,v8),(5,.int .i64 0)]) g n) (
Qc K (.tuple #[]) g n)
def XaF (C:CT) (a0 a1:Value) (g:G) (n:Nat) (K:Cont):Prop:=
Jl a1 fun c3=>
Zw c3 .exact g n fun l3 g1 n3=>
lfp (Xar C K) (puts (Qq [a0,a1]) [(3,ptr l3 0),(4,.int .i64 0)]) g1 n3
theorem Qbb (C:CT) (a0 a1:Value) (g:G) (n:Nat) (K:Cont):XaF C a0 a1 g n K=Zg Tryz.prog C Xz [a0,a1] g n K:=by kernel_rfl
def XaK (C:CT) (a0:Value) (g:G) (n:Nat) (K:Cont):Prop:=
Xb .ptr .eql a0 (.pointer none) fun v4=>
Qa v4 (
Qc K (.slice none 0 0) g n) (
Qo a0 fun v6=>
Qe v6 fun l7 o7=>
kLd g l7 (o7+9) fun v8=>
C Jao [v8] g n fun v9 g1 n9=>
Qc K v9 g1 n9)
theorem Zbj (C:CT) (a0:Value) (g:G) (n:Nat) (K:Cont):XaK C a0 g n K=Zg Tryz.prog C Q7 [a0] g n K:=by kernel_rfl
def Qa7 (C:CT) (a0 a1:Value) (g:G) (n:Nat) (K:Cont):Prop:=
C Zo [a0,a1] g n fun v9 g1 n9=>
kUn .not v9 fun v10=>
Qa v10 (
Qc K (.int .i64 1) g1 n9) (
Qo a0 fun v12=>
Qe v12 fun l13 o13=>
kLd g1 l13 (o13+8) fun v14=>
Jc v14 a1 15 fun v16=>
Qe v16 fun l17 o17=>
Zn g1 l17 o17 15 fun c17=>
Zw [.bool false,.bool false,.int .u64 0,.int .u64 0,.int .u64 0,.int .u64 0,.int .u64 0,.int .u64 0,.int .u64 0,.int .u64 0,.int .i64 0,.int .u8 0,.int .i64 0,.int .i64 0,.int .u8 0] .exact g1 n9 fun l5 g2 n5=>
Jl (.agg c17.toArray) fun cg3=>
cg3.length=15∧Xw g2 l5 0 cg3 fun g3=>
kLd g3 l5 (0+0) fun v19=>
kUn .not v19 fun v20=>
Qa v20 (
Qc K (.int .i64 16) g3 n5) (
kLd g3 l5 (0+10) fun v23=>
Xb .int .geq v23 (.int .i64 0) fun v24=>
Qa v24 (
Qc K (.int .i64 16) g3 n5) (
kLd g3 l5 (0+11) fun v28=>
Xb .int .neq v28 (.int .u8 0) fun v29=>
Qa v29 (
Qc K (.int .i64 16) g3 n5) (
kLd g3 l5 (0+12) fun v33=>
Xb .int .neq v33 (.int .i64 0) fun v34=>
Qa v34 (
Qc K (.int .i64 16) g3 n5) (
C QO [a0,a1] g3 n5 fun v38 g4 n38=>
Xb .int .neq v38 (.int .i64 0) fun v40=>
Qa v40 (
Qc K v38 g4 n38) (
Qo a0 fun v43=>
Qe v43 fun l44 o44=>
kLd g4 l44 (o44+8) fun v45=>
C ZaI [] g4 n38 fun v47 g5 n47=>
(Qe (ptr l44 (o44+8)) fun l _=>g5 l=g4 l)∧Jc v45 a1 15 fun v48=>
Qe v48 fun lg6 og6=>
Jl v47 fun cg6=>
cg6.length=15∧Xw g5 lg6 og6 cg6 fun g6=>
Qc K (.int .i64 0) g6 n47))))))
theorem XbF (C:CT) (a0 a1:Value) (g:G) (n:Nat) (K:Cont):Qa7 C a0 a1 g n K=Zg Tryz.prog C ZK [a0,a1] g n K:=by kernel_rfl
def QaQ (C:CT) (a0 a1 a2:Value) (g:G) (n:Nat) (K:Cont):Prop:=
C Xp [a0,a1] g n fun v12 g1 n12=>
Xb .ptr .eql v12 (.pointer none) fun v14=>
Qa v14 (
Qc K (.int .i64 1) g1 n12) (
C Zo [a0,a2] g1 n12 fun v18 g2 n18=>
kUn .not v18 fun v19=>
Qa v19 (
Qc K (.int .i64 1) g2 n18) (
Qo v12 fun v23=>
Qe v23 fun l24 o24=>
kLd g2 l24 (o24+0) fun v25=>
C Jab [v25,a2] g2 n18 fun v27 g3 n27=>
Xd v27 0 fun v28=>
Xd v27 1 fun v29=>
C QW [v12,v28] g3 n27 fun v32 g4 n32=>
Qc K v29 g4 n32))
theorem Qbx (C:CT) (a0 a1 a2:Value) (g:G) (n:Nat) (K:Cont):QaQ C a0 a1 a2 g n K=Zg Tryz.prog C Qac [a0,a1,a2] g n K:=by kernel_rfl
def JaX (C:CT) (a0 a1:Value) (g:G) (n:Nat) (K:Cont):Prop:=
C Xp [a0,a1] g n fun v8 g1 n8=>
Xb .ptr .eql v8 (.pointer none) fun v10=>
Qa v10 (
Qc K (.slice none 0 0) g1 n8) (
Qo v8 fun v12=>
Qe v12 fun l13 o13=>
kLd g1 l13 (o13+0) fun v14=>
C Zab [v14] g1 n8 fun v15 g2 n15=>
Qc K v15 g2 n15)
theorem Jbv (C:CT) (a0 a1:Value) (g:G) (n:Nat) (K:Cont):JaX C a0 a1 g n K=Zg Tryz.prog C XO [a0,a1] g n K:=by kernel_rfl
def QaS (C:CT) (a0 a1:Value) (g:G) (n:Nat) (K:Cont):Prop:=
Zw [.bool false,.bool false,.int .u64 0,.int .u64 0,.int .u64 0,.int .u64 0,.int .u64 0,.int .u64 0,.int .u64 0,.int .u64 0,.int .i64 0,.int .u8 0,.int .i64 0,.int .i64 0,.int .u8 0] .exact g n fun l4 g1 n4=>
C Zo [a0,a1] g1 n4 fun v7 g2 n7=>
kUn .not v7 fun v8=>
Qa v8 (
C ZaI [] g2 n7 fun v9 g3 n9=>
Jl v9 fun cg4=>
cg4.length=15∧Xw g3 l4 0 cg4 fun g4=>
Zn g4 l4 0 15 fun r0=>
Qc K (.agg r0.toArray) g4 n9) (
Qo a0 fun v11=>
Qe v11 fun l12 o12=>
kLd g2 l12 (o12+8) fun v13=>
Jc v13 a1 15 fun v15=>
Qe v15 fun l16 o16=>
Zn g2 l16 o16 15 fun c16=>
Jl (.agg c16.toArray) fun cg5=>
cg5.length=15∧Xw g2 l4 0 cg5 fun g5=>
Zn g5 l4 0 15 fun r0=>
Qc K (.agg r0.toArray) g5 n7)
theorem Jbx (C:CT) (a0 a1:Value) (g:G) (n:Nat) (K:Cont):QaS C a0 a1 g n K=Zg Tryz.prog C Zy [a0,a1] g n K:=by kernel_rfl
def ZaC (C:CT) (a0:Value) (g:G) (n:Nat) (K:Cont):Prop:=
Xb .ptr .eql a0 (.pointer none) fun v4=>
Qa v4 (
Qc K (.slice none 0 0) g n) (
Qo a0 fun v6=>
Qe v6 fun l7 o7=>
kLd g l7 (o7+9) fun v8=>
C Xao [v8] g n fun v9 g1 n9=>
Qc K v9 g1 n9)
theorem Xbc (C:CT) (a0:Value) (g:G) (n:Nat) (K:Cont):ZaC C a0 g n K=Zg Tryz.prog C QY [a0] g n K:=by kernel_rfl
def JaK (C:CT) (g:G) (n:Nat) (K:Cont):Prop:=
Zw [.int .i64 0,.int .i64 0,.int .i64 0,.int .i64 0,.int .i64 0,.int .i64 0,.int .i64 0] .exact g n fun l0 g1 n0=>
Xk [.int .i64 0,.int .i64 0,.int .i64 0,.int .i64 0,.int .i64 0,.int .i64 0,.int .i64 0] [(0,none,.int .i64 2),(1,none,.int .i64 6),(2,none,.int .i64 1),(3,none,.int .i64 1),(4,none,.int .i64 2),(5,none,.int .i64 2),(6,none,.int .i64 2)] fun c1=>
Jl (.agg c1.toArray) fun cg2=>
cg2.length=7∧Xw g1 l0 0 cg2 fun g2=>
Zn g2 l0 0 7 fun r0=>
Qc K (.agg r0.toArray) g2 n0
theorem Zbe (C:CT) (g:G) (n:Nat) (K:Cont):JaK C g n K=Zg Tryz.prog C X5 [] g n K:=by kernel_rfl
def JaR (C:CT) (a0 a1 a2 a3 a4:Value) (g:G) (n:Nat) (K:Cont):Prop:=
C Xp [a0,a1] g n fun v16 g1 n16=>
Xb .ptr .eql v16 (.pointer none) fun v18=>
Qa v18 (
Qc K (.bool false) g1 n16) (
C Zo [a0,a2] g1 n16 fun v22 g2 n22=>
kUn .not v22 fun v23=>
Qa v23 (
Qc K (.bool false) g2 n22) (
Qo v16 fun v27=>
Qe v27 fun l28 o28=>
kLd g2 l28 (o28+0) fun v29=>
C Xab [v29,a2,a3,a4] g2 n22 fun v33 g3 n33=>
Xd v33 0 fun v34=>
Xd v33 1 fun v35=>
C QW [v16,v35] g3 n33 fun v38 g4 n38=>
Qc K v34 g4 n38))
theorem Jbw (C:CT) (a0 a1 a2 a3 a4:Value) (g:G) (n:Nat) (K:Cont):JaR C a0 a1 a2 a3 a4 g n K=Zg Tryz.prog C ZG [a0,a1,a2,a3,a4] g n K:=by kernel_rfl
def ZbB (C:CT) (a0 a1:Value) (g:G) (n:Nat) (K:Cont):Prop:=
C Xp [a0,a1] g n fun v13 g1 n13=>
Xb .ptr .eql v13 (.pointer none) fun v15=>
Qa v15 (
Qc K (.int .i64 1) g1 n13) (
Qo v13 fun v18=>
Qe v18 fun l19 o19=>
C ZQ [(ptr l19 (o19+1))] g1 n13 fun v20 g2 n20=>
Xd v20 0 fun v21=>
Xd v20 1 fun v22=>
Zw [.int .i64 0,.int .i64 0,.bool false,.bool false,.int .u64 0,.int .u64 0,.int .u64 0,.int .u64 0,.int .u64 0,.int .u64 0,.int .u64 0,.int .u64 0] .exact g2 n20 fun l6 g3 n6=>
Jl v21 fun cg4=>
cg4.length=12∧Xw g3 l6 0 cg4 fun g4=>
kUn .not v22 fun v25=>
Qa v25 (
Qc K (.int .i64 14) g4 n6) (
Qo a0 fun v28=>
Qe v28 fun l29 o29=>
kLd g4 l29 (o29+8) fun v30=>
kLd g4 l6 (0+1) fun v32=>
Jc v30 v32 15 fun v33=>
Qe v33 fun l34 o34=>
kLd g4 l34 (o34+12) fun v35=>
Xb .int .neq v35 (.int .i64 0) fun v36=>
Qa v36 (
Qc K (.int .i64 15) g4 n6) (
kLd g4 l6 (0+1) fun v39=>
C Zaj [a0,v39] g4 n6 fun v40 g5 n40=>
Qo a0 fun v43=>
Qe v43 fun l44 o44=>
kLd g5 l44 (o44+8) fun v45=>
kLd g5 l6 (0+1) fun v47=>
Jc v45 v47 15 fun v48=>
Qe v48 fun l49 o49=>
Zn g5 l49 o49 15 fun c49=>
Zn g5 l6 0 12 fun c51=>
(C Xbt [.agg c49.toArray,a1,.agg c51.toArray] g5 n40 fun v52 g6 n52=>
Xd v52 0 fun v53=>
Xd v52 1 fun v54=>
Xd v52 2 fun v55=>
Zw [.bool false,.bool false,.int .u64 0,.int .u64 0,.int .u64 0,.int .u64 0,.int .u64 0,.int .u64 0,.int .u64 0,.int .u64 0,.int .i64 0,.int .u8 0,.int .i64 0,.int .i64 0,.int .u8 0] .exact g6 n52 fun l8 g7 n8=>
(Qe (ptr l44 (o44+8)) fun l _=>g7 l=g6 l)∧(Qe (ptr l6 (0+1)) fun l _=>g7 l=g6 l)∧(Qe v48 fun l _=>g7 l=g6 l)∧(Qe (ptr l6 0) fun l _=>g7 l=g6 l)∧Jl v53 fun cg8=>
cg8.length=15∧Xw g7 l8 0 cg8 fun g8=>
Xb .int .neq v55 (.int .i64 0) fun v57=>
Qa v57 (
Qc K v55 g8 n8) (
Qo v13 fun v60=>
Qe v60 fun l61 o61=>
C Xr [(ptr l61 (o61+1))] g8 n8 fun v62 g9 n62=>
Qo a0 fun v64=>
Qe v64 fun l65 o65=>
kLd g9 l65 (o65+8) fun v66=>
kLd g9 l6 (0+1) fun v68=>
Zn g9 l8 0 15 fun c69=>
Jc v66 v68 15 fun v70=>
Qe v70 fun lg10 og10=>
Jl (.agg c69.toArray) fun cg10=>
cg10.length=15∧Xw g9 lg10 og10 cg10 fun g10=>
kLd g10 l6 (0+1) fun v74=>
C Jk [a0,v54,v74] g10 n62 fun v75 g11 n75=>
Qc K (.int .i64 0) g11 n75))∧(Zw [.bool false,.bool false,.int .u64 0,.int .u64 0,.int .u64 0,.int .u64 0,.int .u64 0,.int .u64 0,.int .u64 0,.int .u64 0,.int .i64 0,.int .u8 0,.int .i64 0,.int .i64 0,.int .u8 0] .exact g5 n40 fun l8 g12 n8=>
(Qe (ptr l44 (o44+8)) fun l _=>g12 l=g5 l)∧(Qe (ptr l6 (0+1)) fun l _=>g12 l=g5 l)∧(Qe v48 fun l _=>g12 l=g5 l)∧(Qe (ptr l6 0) fun l _=>g12 l=g5 l)∧C Xbt [.agg c49.toArray,a1,.agg c51.toArray] g12 n8 fun v52 g13 n52=>
Xd v52 0 fun v53=>
Xd v52 1 fun v54=>
Xd v52 2 fun v55=>
Jl v53 fun cg14=>
cg14.length=15∧Xw g13 l8 0 cg14 fun g14=>
Xb .int .neq v55 (.int .i64 0) fun v57=>
Qa v57 (
Qc K v55 g14 n52) (
Qo v13 fun v60=>
Qe v60 fun l61 o61=>
C Xr [(ptr l61 (o61+1))] g14 n52 fun v62 g15 n62=>
Qo a0 fun v64=>
Qe v64 fun l65 o65=>
kLd g15 l65 (o65+8) fun v66=>
kLd g15 l6 (0+1) fun v68=>
Zn g15 l8 0 15 fun c69=>
Jc v66 v68 15 fun v70=>
Qe v70 fun lg16 og16=>
Jl (.agg c69.toArray) fun cg16=>
cg16.length=15∧Xw g15 lg16 og16 cg16 fun g16=>
kLd g16 l6 (0+1) fun v74=>
C Jk [a0,v54,v74] g16 n62 fun v75 g17 n75=>
Qc K (.int .i64 0) g17 n75)))))
theorem Jb7 (C:CT) (a0 a1:Value) (g:G) (n:Nat) (K:Cont):ZbB C a0 a1 g n K=Zg Tryz.prog C JP [a0,a1] g n K:=by kernel_rfl
def QaC (C:CT) (K:Cont) (t:Env) (g:G) (n:Nat):Prop:=
Qe (t 7) fun l50 o50=>
Zn g l50 o50 12 fun c50=>
Qe (t 4) fun lg12 og12=>
Jl (.agg c50.toArray) fun cg12=>
cg12.length=12∧Xw g lg12 og12 cg12 fun g12=>
Qe (t 4) fun lr0 or0=>
Zn g12 lr0 or0 12 fun r0=>
Qc K (.tuple #[.agg r0.toArray,t 10]) g12 n
def JaC (C:CT) (K:Cont) (I_l1:Qn) (t:Env) (g:G) (n:Nat):Prop:=
Xb .int .lss (t 40) (t 39) fun v41=>
Qa v41 (
Jc (t 38) (t 40) 12 fun v42=>
Qe v42 fun l43 o43=>
Zn g l43 o43 12 fun c43=>
Zw [.int .i64 0,.int .i64 0,.bool false,.bool false,.int .u64 0,.int .u64 0,.int .u64 0,.int .u64 0,.int .u64 0,.int .u64 0,.int .u64 0,.int .u64 0] .exact g n fun l12 g9 n12=>
Jl (.agg c43.toArray) fun cg10=>
cg10.length=12∧Xw g9 l12 0 cg10 fun g10=>
Qo (t 6) fun v45=>
Qe v45 fun l46 o46=>
Zn g10 l12 0 12 fun c47=>
C Zv [(ptr l46 (o46+2)),.agg c47.toArray] g10 n12 fun v48 g11 n48=>
Xb .int .add (t 40) (.int .i64 1) fun v49=>
I_l1 (puts t [(41,v41),(42,v42),(43,.agg c43.toArray),(12,ptr l12 0),(44,t 6),(45,v45),(46,(ptr l46 (o46+2))),(47,.agg c47.toArray),(48,v48),(49,v49),(40,v49)]) g11 n48) (
QaC C K (puts t [(41,v41)]) g n)
def Xa6 (C:CT) (a0 a1:Value) (g:G) (n:Nat) (K:Cont):Prop:=
Zw [.int .i64 0,.int .i64 0,.bool false,.bool false,.int .u64 0,.int .u64 0,.int .u64 0,.int .u64 0,.int .u64 0,.int .u64 0,.int .u64 0,.int .u64 0] .exact g n fun l4 g1 n4=>
C Xp [a0,a1] g1 n4 fun v15 g2 n15=>
Xb .ptr .eql v15 (.pointer none) fun v17=>
Qa v17 (
Xk [.int .i64 0,.int .i64 0,.bool false,.bool false,.int .u64 0,.int .u64 0,.int .u64 0,.int .u64 0,.int .u64 0,.int .u64 0,.int .u64 0,.int .u64 0] [] fun c18=>
Jl (.agg c18.toArray) fun cg3=>
cg3.length=12∧Xw g2 l4 0 cg3 fun g3=>
Zn g3 l4 0 12 fun r0=>
Qc K (.tuple #[.agg r0.toArray,.int .i64 1]) g3 n15) (
Qo v15 fun v21=>
Qe v21 fun l22 o22=>
C Xr [(ptr l22 (o22+3))] g2 n15 fun v23 g4 n23=>
Xd v23 0 fun v24=>
Xd v23 1 fun v25=>
Zw [.int .i64 0,.int .i64 0,.bool false,.bool false,.int .u64 0,.int .u64 0,.int .u64 0,.int .u64 0,.int .u64 0,.int .u64 0,.int .u64 0,.int .u64 0] .exact g4 n23 fun l7 g5 n7=>
Jl v24 fun cg6=>
cg6.length=12∧Xw g5 l7 0 cg6 fun g6=>
kUn .not v25 fun v27=>
Qa v27 (
Xk [.int .i64 0,.int .i64 0,.bool false,.bool false,.int .u64 0,.int .u64 0,.int .u64 0,.int .u64 0,.int .u64 0,.int .u64 0,.int .u64 0,.int .u64 0] [] fun c28=>
Jl (.agg c28.toArray) fun cg7=>
cg7.length=12∧Xw g6 l4 0 cg7 fun g7=>
Zn g7 l4 0 12 fun r0=>
Qc K (.tuple #[.agg r0.toArray,.int .i64 14]) g7 n7) (
Qo v15 fun v31=>
Qe v31 fun l32 o32=>
kLd g6 l32 (o32+0) fun v33=>
Zn g6 l7 0 12 fun c34=>
C Qag [v33,.agg c34.toArray] g6 n7 fun v35 g8 n35=>
Xd v35 0 fun v36=>
Xd v35 1 fun v37=>
ZaH v36 fun v39=>
lfp (JaC C K) (puts (Qq [a0,a1]) [(4,ptr l4 0),(5,.int .i64 0),(13,a0),(14,a1),(15,v15),(6,v15),(16,v15),(17,v17),(20,v15),(21,v21),(22,(ptr l22 (o22+3))),(23,v23),(19,v23),(24,v24),(25,v25),(7,ptr l7 0),(8,v25),(26,v25),(27,v27),(30,v15),(31,v31),(32,(ptr l32 (o32+0))),(33,v33),(34,.agg c34.toArray),(35,v35),(29,v35),(36,v36),(37,v37),(9,v36),(10,v37),(38,v36),(39,v39),(40,.int .i64 0)]) g8 n35))
theorem QbG (C:CT) (a0 a1:Value) (g:G) (n:Nat) (K:Cont):Xa6 C a0 a1 g n K=Zg Tryz.prog C XA [a0,a1] g n K:=by kernel_rfl
def XaL (C:CT) (a0 a1:Value) (g:G) (n:Nat) (K:Cont):Prop:=
C Xp [a0,a1] g n fun v13 g1 n13=>
Xb .ptr .eql v13 (.pointer none) fun v15=>
Qa v15 (
Qc K (.int .i64 1) g1 n13) (
Qo v13 fun v18=>
Qe v18 fun l19 o19=>
C Xr [(ptr l19 (o19+2))] g1 n13 fun v20 g2 n20=>
Xd v20 0 fun v21=>
Xd v20 1 fun v22=>
Zw [.int .i64 0,.int .i64 0,.bool false,.bool false,.int .u64 0,.int .u64 0,.int .u64 0,.int .u64 0,.int .u64 0,.int .u64 0,.int .u64 0,.int .u64 0] .exact g2 n20 fun l6 g3 n6=>
Jl v21 fun cg4=>
cg4.length=12∧Xw g3 l6 0 cg4 fun g4=>
kUn .not v22 fun v24=>
Qa v24 (
Qc K (.int .i64 14) g4 n6) (
Qo a0 fun v27=>
Qe v27 fun l28 o28=>
kLd g4 l28 (o28+8) fun v29=>
kLd g4 l6 (0+1) fun v31=>
Jc v29 v31 15 fun v32=>
Qe v32 fun l33 o33=>
Zn g4 l33 o33 15 fun c33=>
Zn g4 l6 0 12 fun c35=>
(C Jaz [.agg c33.toArray,a1,.agg c35.toArray] g4 n6 fun v36 g5 n36=>
Xd v36 0 fun v37=>
Xd v36 1 fun v38=>
Xd v36 2 fun v39=>
Zw [.bool false,.bool false,.int .u64 0,.int .u64 0,.int .u64 0,.int .u64 0,.int .u64 0,.int .u64 0,.int .u64 0,.int .u64 0,.int .i64 0,.int .u8 0,.int .i64 0,.int .i64 0,.int .u8 0] .exact g5 n36 fun l8 g6 n8=>
(Qe (ptr l28 (o28+8)) fun l _=>g6 l=g5 l)∧(Qe (ptr l6 (0+1)) fun l _=>g6 l=g5 l)∧(Qe v32 fun l _=>g6 l=g5 l)∧(Qe (ptr l6 0) fun l _=>g6 l=g5 l)∧Jl v37 fun cg7=>
cg7.length=15∧Xw g6 l8 0 cg7 fun g7=>
Xb .int .neq v39 (.int .i64 0) fun v41=>
Qa v41 (
Qc K v39 g7 n8) (
Qo a0 fun v44=>
Qe v44 fun l45 o45=>
kLd g7 l45 (o45+8) fun v46=>
kLd g7 l6 (0+1) fun v48=>
Zn g7 l8 0 15 fun c49=>
Jc v46 v48 15 fun v50=>
Qe v50 fun lg8 og8=>
Jl (.agg c49.toArray) fun cg8=>
cg8.length=15∧Xw g7 lg8 og8 cg8 fun g8=>
kLd g8 l6 (0+1) fun v54=>
C Jk [a0,v38,v54] g8 n8 fun v55 g9 n55=>
Qc K (.int .i64 0) g9 n55))∧(Zw [.bool false,.bool false,.int .u64 0,.int .u64 0,.int .u64 0,.int .u64 0,.int .u64 0,.int .u64 0,.int .u64 0,.int .u64 0,.int .i64 0,.int .u8 0,.int .i64 0,.int .i64 0,.int .u8 0] .exact g4 n6 fun l8 g10 n8=>
(Qe (ptr l28 (o28+8)) fun l _=>g10 l=g4 l)∧(Qe (ptr l6 (0+1)) fun l _=>g10 l=g4 l)∧(Qe v32 fun l _=>g10 l=g4 l)∧(Qe (ptr l6 0) fun l _=>g10 l=g4 l)∧C Jaz [.agg c33.toArray,a1,.agg c35.toArray] g10 n8 fun v36 g11 n36=>
Xd v36 0 fun v37=>
Xd v36 1 fun v38=>
Xd v36 2 fun v39=>
Jl v37 fun cg12=>
cg12.length=15∧Xw g11 l8 0 cg12 fun g12=>
Xb .int .neq v39 (.int .i64 0) fun v41=>
Qa v41 (
Qc K v39 g12 n36) (
Qo a0 fun v44=>
Qe v44 fun l45 o45=>
kLd g12 l45 (o45+8) fun v46=>
kLd g12 l6 (0+1) fun v48=>
Zn g12 l8 0 15 fun c49=>
Jc v46 v48 15 fun v50=>
Qe v50 fun lg13 og13=>
Jl (.agg c49.toArray) fun cg13=>
cg13.length=15∧Xw g12 lg13 og13 cg13 fun g13=>
kLd g13 l6 (0+1) fun v54=>
C Jk [a0,v38,v54] g13 n36 fun v55 g14 n55=>
Qc K (.int .i64 0) g14 n55))))
theorem Zbg (C:CT) (a0 a1:Value) (g:G) (n:Nat) (K:Cont):XaL C a0 a1 g n K=Zg Tryz.prog C JL [a0,a1] g n K:=by kernel_rfl
def XaJ (C:CT) (a0:Value) (g:G) (n:Nat) (K:Cont):Prop:=
Zw [.int .i64 0,.int .i64 0,.int .i64 0,.int .i64 0,.int .i64 0,.int .i64 0,.int .i64 0] .exact g n fun l2 g1 n2=>
Xb .ptr .eql a0 (.pointer none) fun v4=>
Qa v4 (
Xk [.int .i64 0,.int .i64 0,.int .i64 0,.int .i64 0,.int .i64 0,.int .i64 0,.int .i64 0] [] fun c5=>
Jl (.agg c5.toArray) fun cg2=>
cg2.length=7∧Xw g1 l2 0 cg2 fun g2=>
Zn g2 l2 0 7 fun r0=>
Qc K (.agg r0.toArray) g2 n2) (
Qo a0 fun v7=>
Qe v7 fun l8 o8=>
Zn g1 l8 (o8+0) 7 fun c9=>
Jl (.agg c9.toArray) fun cg3=>
cg3.length=7∧Xw g1 l2 0 cg3 fun g3=>
Zn g3 l2 0 7 fun r0=>
Qc K (.agg r0.toArray) g3 n2)
theorem Jbj (C:CT) (a0:Value) (g:G) (n:Nat) (K:Cont):XaJ C a0 g n K=Zg Tryz.prog C J3 [a0] g n K:=by kernel_rfl
def JdG (C:CT) (a0:Value) (g:G) (n:Nat) (K:Cont):Prop:=
Jl a0 fun c1=>
Zw c1 .exact g n fun l1 g1 n1=>
kLd g1 l1 (0+3) fun v5=>
Xb .int .eql v5 (.int .i64 1) fun v6=>
Qa v6 (
kLd g1 l1 (0+0) fun v23=>
C Xe [v23,.int .i64 1,.int .i64 8] g1 n1 fun v24 g2 n24=>
Qa v24 (
kLd g2 l1 (0+1) fun v27=>
C Xe [v27,.int .i64 2,.int .i64 64] g2 n24 fun v28 g3 n28=>
Qa v28 (
kLd g3 l1 (0+2) fun v32=>
kLd g3 l1 (0+1) fun v34=>
Xb .int .sub v34 (.int .i64 1) fun v35=>
C Xe [v32,.int .i64 1,v35] g3 n28 fun v36 g4 n36=>
Qa v36 (
kLd g4 l1 (0+4) fun v43=>
C Xe [v43,.int .i64 1,.int .i64 8] g4 n36 fun v44 g5 n44=>
Qa v44 (
kLd g5 l1 (0+5) fun v48=>
C Xe [v48,.int .i64 1,.int .i64 16] g5 n44 fun v49 g6 n49=>
Qa v49 (
kLd g6 l1 (0+6) fun v53=>
C Xe [v53,.int .i64 1,.int .i64 16] g6 n49 fun v54 g7 n54=>
Qc K v54 g7 n54) (
Qc K (.bool false) g6 n49)) (
Qc K (.bool false) g5 n44)) (
Qc K (.bool false) g4 n36)) (
Qc K (.bool false) g3 n28)) (
Qc K (.bool false) g2 n24)) (
kLd g1 l1 (0+3) fun v9=>
Xb .int .eql v9 (.int .i64 2) fun v10=>
Qa v10 (
kLd g1 l1 (0+0) fun v23=>
C Xe [v23,.int .i64 1,.int .i64 8] g1 n1 fun v24 g8 n24=>
Qa v24 (
kLd g8 l1 (0+1) fun v27=>
C Xe [v27,.int .i64 2,.int .i64 64] g8 n24 fun v28 g9 n28=>
Qa v28 (
kLd g9 l1 (0+2) fun v32=>
kLd g9 l1 (0+1) fun v34=>
Xb .int .sub v34 (.int .i64 1) fun v35=>
C Xe [v32,.int .i64 1,v35] g9 n28 fun v36 g10 n36=>
Qa v36 (
kLd g10 l1 (0+4) fun v43=>
C Xe [v43,.int .i64 1,.int .i64 8] g10 n36 fun v44 g11 n44=>
Qa v44 (
kLd g11 l1 (0+5) fun v48=>
C Xe [v48,.int .i64 1,.int .i64 16] g11 n44 fun v49 g12 n49=>
Qa v49 (
kLd g12 l1 (0+6) fun v53=>
C Xe [v53,.int .i64 1,.int .i64 16] g12 n49 fun v54 g13 n54=>
Qc K v54 g13 n54) (
Qc K (.bool false) g12 n49)) (
Qc K (.bool false) g11 n44)) (
Qc K (.bool false) g10 n36)) (
Qc K (.bool false) g9 n28)) (
Qc K (.bool false) g8 n24)) (
kLd g1 l1 (0+3) fun v14=>
Xb .int .eql v14 (.int .i64 4) fun v15=>
Qa v15 (
kLd g1 l1 (0+0) fun v23=>
C Xe [v23,.int .i64 1,.int .i64 8] g1 n1 fun v24 g14 n24=>
Qa v24 (
kLd g14 l1 (0+1) fun v27=>
C Xe [v27,.int .i64 2,.int .i64 64] g14 n24 fun v28 g15 n28=>
Qa v28 (
kLd g15 l1 (0+2) fun v32=>
kLd g15 l1 (0+1) fun v34=>
Xb .int .sub v34 (.int .i64 1) fun v35=>
C Xe [v32,.int .i64 1,v35] g15 n28 fun v36 g16 n36=>
Qa v36 (
kLd g16 l1 (0+4) fun v43=>
C Xe [v43,.int .i64 1,.int .i64 8] g16 n36 fun v44 g17 n44=>
Qa v44 (
kLd g17 l1 (0+5) fun v48=>
C Xe [v48,.int .i64 1,.int .i64 16] g17 n44 fun v49 g18 n49=>
Qa v49 (
kLd g18 l1 (0+6) fun v53=>
C Xe [v53,.int .i64 1,.int .i64 16] g18 n49 fun v54 g19 n54=>
Qc K v54 g19 n54) (
Qc K (.bool false) g18 n49)) (
Qc K (.bool false) g17 n44)) (
Qc K (.bool false) g16 n36)) (
Qc K (.bool false) g15 n28)) (
Qc K (.bool false) g14 n24)) (
kLd g1 l1 (0+3) fun v19=>
Xb .int .eql v19 (.int .i64 8) fun v20=>
kLd g1 l1 (0+0) fun v23=>
C Xe [v23,.int .i64 1,.int .i64 8] g1 n1 fun v24 g20 n24=>
Qa v24 (
kLd g20 l1 (0+1) fun v27=>
C Xe [v27,.int .i64 2,.int .i64 64] g20 n24 fun v28 g21 n28=>
Qa v28 (
kLd g21 l1 (0+2) fun v32=>
kLd g21 l1 (0+1) fun v34=>
Xb .int .sub v34 (.int .i64 1) fun v35=>
C Xe [v32,.int .i64 1,v35] g21 n28 fun v36 g22 n36=>
Qa v36 (
Qa v20 (
kLd g22 l1 (0+4) fun v43=>
C Xe [v43,.int .i64 1,.int .i64 8] g22 n36 fun v44 g23 n44=>
Qa v44 (
kLd g23 l1 (0+5) fun v48=>
C Xe [v48,.int .i64 1,.int .i64 16] g23 n44 fun v49 g24 n49=>
Qa v49 (
kLd g24 l1 (0+6) fun v53=>
C Xe [v53,.int .i64 1,.int .i64 16] g24 n49 fun v54 g25 n54=>
Qc K v54 g25 n54) (
Qc K (.bool false) g24 n49)) (
Qc K (.bool false) g23 n44)) (
Qc K (.bool false) g22 n36)) (
Qc K (.bool false) g22 n36)) (
Qc K (.bool false) g21 n28)) (
Qc K (.bool false) g20 n24))))
theorem Jdz (C:CT) (a0:Value) (g:G) (n:Nat) (K:Cont):JdG C a0 g n K=Zg Tryz.prog C Jbl [a0] g n K:=by kernel_rfl
def Xfd (C:CT) (a0 a1:Value) (g:G) (n:Nat) (K:Cont):Prop:=
Xb .int .lss a0 (.int .i64 2) fun v7=>
Qa v7 (
Qc K (.tuple #[.pointer none,.int .i64 1]) g n) (
Xb .int .gtr a0 (.int .i64 64) fun v10=>
Qa v10 (
Qc K (.tuple #[.pointer none,.int .i64 1]) g n) (
Xb .int .lss a1 (.int .i64 1) fun v14=>
Qa v14 (
Qc K (.tuple #[.pointer none,.int .i64 1]) g n) (
Xb .int .sub a0 (.int .i64 1) fun v19=>
Xb .int .gtr a1 v19 fun v20=>
Qa v20 (
Qc K (.tuple #[.pointer none,.int .i64 1]) g n) (
QbK a0 a0 [.int .u64 0,.int .u64 0,.int .u64 0,.int .u64 0,.int .u64 0,.int .u64 0,.int .u64 0,.int .u64 0] 64 g n fun v23 g1 n23=>
Xk [.slice none 0 0,.int .i64 0,.int .i64 0,.int .i64 0] [(0,none,v23),(1,none,a1)] fun c25=>
Jl (.agg c25.toArray) fun c26=>
Zw c26 .exact g1 n23 fun l26 g2 n26=>
Qc K (.tuple #[ptr l26 0,.int .i64 0]) g2 n26))))
theorem Qep (C:CT) (a0 a1:Value) (g:G) (n:Nat) (K:Cont):Xfd C a0 a1 g n K=Zg Tryz.prog C XaX [a0,a1] g n K:=by kernel_rfl
def ZaL (C:CT) (a0 a1:Value) (g:G) (n:Nat) (K:Cont):Prop:=
Xb .ptr .eql a0 (.pointer none) fun v6=>
Qa v6 (
Qc K (.int .i64 1) g n) (
ZaH a1 fun v9=>
Qo a0 fun v11=>
Qe v11 fun l12 o12=>
kLd g l12 (o12+0) fun v13=>
ZaH v13 fun v14=>
Xb .int .neq v9 v14 fun v15=>
Qa v15 (
Qc K (.int .i64 1) g n) (
Qo a0 fun v18=>
Qe v18 fun l19 o19=>
kLd g l19 (o19+0) fun v20=>
Zbk v20 a1 8 g fun v22 g1=>
Qc K (.int .i64 0) g1 n))
theorem Qbo (C:CT) (a0 a1:Value) (g:G) (n:Nat) (K:Cont):ZaL C a0 a1 g n K=Zg Tryz.prog C XL [a0,a1] g n K:=by kernel_rfl
def Xbh (C:CT) (a0:Value) (g:G) (n:Nat) (K:Cont):Prop:=
Xb .ptr .neq a0 (.pointer none) fun v3=>
Qa v3 (
Qo a0 fun v5=>
Qe v5 fun l6 o6=>
kLd g l6 (o6+0) fun v7=>
Qo a0 fun v9=>
Qe v9 fun l10 o10=>
kLd g l10 (o10+1) fun v11=>
Xu v7 none (some v11) none 8 fun v12=>
Jav v12 [.int .u64 0,.int .u64 0,.int .u64 0,.int .u64 0,.int .u64 0,.int .u64 0,.int .u64 0,.int .u64 0] g fun v_ g1=>
Qc K (.tuple #[]) g1 n) (
Qc K (.tuple #[]) g n)
theorem ZbN (C:CT) (a0:Value) (g:G) (n:Nat) (K:Cont):Xbh C a0 g n K=Zg Tryz.prog C Z0 [a0] g n K:=by kernel_rfl
def QeQ (C:CT) (a0 a1:Value) (g:G) (n:Nat) (K:Cont):Prop:=
Xb .ptr .eql a0 (.pointer none) fun v7=>
Qa v7 (
Qc K (.tuple #[.pointer none,.int .i64 1]) g n) (
Xb .int .lss a1 (.int .i64 1) fun v10=>
Qa v10 (
Qc K (.tuple #[.pointer none,.int .i64 1]) g n) (
Xb .int .gtr a1 (.int .i64 16) fun v14=>
Qa v14 (
Qc K (.tuple #[.pointer none,.int .i64 1]) g n) (
Xk [.pointer none,.int .i64 0,.slice none 0 0] [(0,none,a0),(1,none,a1)] fun c18=>
Jl (.agg c18.toArray) fun c19=>
Zw c19 .exact g n fun l19 g1 n19=>
Qc K (.tuple #[ptr l19 0,.int .i64 0]) g1 n19)))
theorem Zeu (C:CT) (a0 a1:Value) (g:G) (n:Nat) (K:Cont):QeQ C a0 a1 g n K=Zg Tryz.prog C Zb4 [a0,a1] g n K:=by kernel_rfl
def Zax (C:CT) (K:Cont) (I_l3:Qn) (t:Env) (g:G) (n:Nat):Prop:=
Xb .int .lss (t 57) (t 56) fun v58=>
Qa v58 (
Qo (t 0) fun v61=>
Qe v61 fun l62 o62=>
kLd g l62 (o62+8) fun v63=>
C ZaI [] g n fun v65 g7 n65=>
(Qe (ptr l62 (o62+8)) fun l _=>g7 l=g l)∧Jc v63 (t 57) 15 fun v66=>
Qe v66 fun lg8 og8=>
Jl v65 fun cg8=>
cg8.length=15∧Xw g7 lg8 og8 cg8 fun g8=>
Xb .int .add (t 57) (.int .i64 1) fun v67=>
I_l3 (puts t [(58,v58),(59,t 57),(3,t 57),(60,t 0),(61,v61),(62,(ptr l62 (o62+8))),(63,v63),(64,t 57),(65,v65),(66,v66),(67,v67),(57,v67)]) g8 n65) (
Qc K (.tuple #[]) g n)
def Zad (C:CT) (K:Cont) (t:Env) (g:G) (n:Nat):Prop:=
Qo (t 0) fun v45=>
Qe v45 fun l46 o46=>
kLd g l46 (o46+0+1) fun v48=>
QbK v48 v48 [.bool false,.bool false,.int .u64 0,.int .u64 0,.int .u64 0,.int .u64 0,.int .u64 0,.int .u64 0,.int .u64 0,.int .u64 0,.int .i64 0,.int .u8 0,.int .i64 0,.int .i64 0,.int .u8 0] 112 g n fun v49 g5 n49=>
Qo (t 0) fun v50=>
Qe v50 fun l51 o51=>
kSt g5 l51 (o51+8) v49 fun g6=>
Qo (t 0) fun v53=>
Qe v53 fun l54 o54=>
kLd g6 l54 (o54+8) fun v55=>
ZaH v55 fun v56=>
lfp (Zax C K) (puts t [(43,t 0),(44,t 0),(45,v45),(46,(ptr l46 (o46+0))),(47,(ptr l46 (o46+0+1))),(48,v48),(49,v49),(50,v50),(51,(ptr l51 (o51+8))),(52,t 0),(53,v53),(54,(ptr l54 (o54+8))),(55,v55),(56,v56),(57,.int .i64 0)]) g6 n49
def Qax (C:CT) (K:Cont) (I_l1:Qn) (t:Env) (g:G) (n:Nat):Prop:=
Xb .int .lss (t 18) (t 17) fun v19=>
Qa v19 (
Qo (t 0) fun v23=>
Qe v23 fun l24 o24=>
kLd g l24 (o24+7) fun v25=>
Qo (t 0) fun v28=>
Qe v28 fun l29 o29=>
kLd g l29 (o29+0+3) fun v31=>
Qo (t 0) fun v33=>
Qe v33 fun l34 o34=>
kLd g l34 (o34+0+4) fun v36=>
C Jbg [v31,v36] g n fun v37 g3 n37=>
(Qe (ptr l24 (o24+7)) fun l _=>g3 l=g l)∧Xd v37 0 fun v38=>
Xd v37 1 fun v39=>
Jc v25 (t 18) 4 fun v40=>
Qe v40 fun l41 o41=>
kSt g3 l41 (o41+0) v38 fun g4=>
Xb .int .add (t 18) (.int .i64 1) fun v42=>
I_l1 (puts t [(19,v19),(20,t 18),(2,t 18),(22,t 0),(23,v23),(24,(ptr l24 (o24+7))),(25,v25),(26,t 18),(27,t 0),(28,v28),(29,(ptr l29 (o29+0))),(30,(ptr l29 (o29+0+3))),(31,v31),(32,t 0),(33,v33),(34,(ptr l34 (o34+0))),(35,(ptr l34 (o34+0+4))),(36,v36),(37,v37),(21,v37),(38,v38),(39,v39),(40,v40),(41,(ptr l41 (o41+0))),(42,v42),(18,v42)]) g4 n37) (
Zad C K (puts t [(19,v19)]) g n)
def JaQ (C:CT) (a0:Value) (g:G) (n:Nat) (K:Cont):Prop:=
Qo a0 fun v6=>
Qe v6 fun l7 o7=>
kLd g l7 (o7+0+0) fun v9=>
QbK v9 v9 [.pointer none,.slice none 0 0,.slice none 0 0,.slice none 0 0] 80 g n fun v10 g1 n10=>
Qo a0 fun v11=>
Qe v11 fun l12 o12=>
kSt g1 l12 (o12+7) v10 fun g2=>
Qo a0 fun v14=>
Qe v14 fun l15 o15=>
kLd g2 l15 (o15+7) fun v16=>
ZaH v16 fun v17=>
lfp (Qax C K) (puts (Qq [a0]) [(4,a0),(5,a0),(6,v6),(7,(ptr l7 (o7+0))),(8,(ptr l7 (o7+0+0))),(9,v9),(10,v10),(11,v11),(12,(ptr l12 (o12+7))),(13,a0),(14,v14),(15,(ptr l15 (o15+7))),(16,v16),(17,v17),(18,.int .i64 0)]) g2 n10
theorem Xbx (C:CT) (a0:Value) (g:G) (n:Nat) (K:Cont):JaQ C a0 g n K=Zg Tryz.prog C Jaa [a0] g n K:=by kernel_rfl
def Xbz (C:CT) (a0 a1:Value) (g:G) (n:Nat) (K:Cont):Prop:=
Xb .ptr .eql a0 (.pointer none) fun v6=>
Qa v6 (
Qc K (.pointer none) g n) (
Xb .int .lss a1 (.int .i64 0) fun v9=>
Qa v9 (
Qc K (.pointer none) g n) (
Qo a0 fun v14=>
Qe v14 fun l15 o15=>
kLd g l15 (o15+7) fun v16=>
ZaH v16 fun v17=>
Xb .int .geq a1 v17 fun v18=>
Qa v18 (
Qc K (.pointer none) g n) (
Qo a0 fun v21=>
Qe v21 fun l22 o22=>
C Jv [(ptr l22 (o22+10)),.int .i64 1] g n fun v23 g1 n23=>
Qo a0 fun v25=>
Qe v25 fun l26 o26=>
kLd g1 l26 (o26+7) fun v27=>
Jc v27 a1 4 fun v29=>
Qc K v29 g1 n23)))
theorem Qb4 (C:CT) (a0 a1:Value) (g:G) (n:Nat) (K:Cont):Xbz C a0 a1 g n K=Zg Tryz.prog C Xp [a0,a1] g n K:=by kernel_rfl
def Jba (C:CT) (a0 a1:Value) (g:G) (n:Nat) (K:Cont):Prop:=
Xb .ptr .neq a0 (.pointer none) fun v6=>
Qa v6 (
Xb .int .geq a1 (.int .i64 0) fun v9=>
Qa v9 (
Qo a0 fun v14=>
Qe v14 fun l15 o15=>
kLd g l15 (o15+8) fun v16=>
ZaH v16 fun v17=>
Xb .int .lss a1 v17 fun v18=>
Qc K v18 g n) (
Qc K (.bool false) g n)) (
Qc K (.bool false) g n)
theorem XbD (C:CT) (a0 a1:Value) (g:G) (n:Nat) (K:Cont):Jba C a0 a1 g n K=Zg Tryz.prog C Zo [a0,a1] g n K:=by kernel_rfl
def Qai (C:CT) (K:Cont) (t:Env) (g:G) (n:Nat):Prop:=
Xk [.int .u64 0,.int .u64 0,.int .u64 0,.int .u64 0,.int .u64 0,.int .u64 0,.int .u64 0,.int .u64 0] [] fun c40=>
C QM [t 0,t 1,.int .i64 4,.int .i64 1,.agg c40.toArray] g n fun v41 g6 n41=>
Qc K (.tuple #[.int .u64 0,.bool false,v41]) g6 n41
def JA (C:CT) (K:Cont) (t:Env) (g:G) (n:Nat):Prop:=
Qa (t 23) (
Qo (t 0) fun v29=>
Qe v29 fun l30 o30=>
kLd g l30 (o30+0) fun v31=>
C Xad [v31,t 1] g n fun v33 g5 n33=>
Qe (t 9) fun l35 o35=>
ZD (ptr l35 (o35+2)) (t 2) 8 1 fun v36=>
Qe v36 fun l37 o37=>
kLd g5 l37 o37 fun v37=>
Qc K (.tuple #[v37,.bool true,.slice none 0 0]) g5 n33) (
Qai C K t g n)
def Ja6 (C:CT) (a0 a1 a2:Value) (g:G) (n:Nat) (K:Cont):Prop:=
Xb .ptr .eql a0 (.pointer none) fun v11=>
Qa v11 (
Qc K (.tuple #[.int .u64 0,.bool false,.slice none 0 0]) g n) (
C JaE [a1,a2] g n fun v15 g1 n15=>
kUn .not v15 fun v16=>
Qa v16 (
Qc K (.tuple #[.int .u64 0,.bool false,.slice none 0 0]) g1 n15) (
C Ql [a0,a1] g1 n15 fun v20 g2 n20=>
Zw [.int .i64 0,.int .i64 0,.int .u64 0,.int .u64 0,.int .u64 0,.int .u64 0,.int .u64 0,.int .u64 0,.int .u64 0,.int .u64 0,.int .i64 0] .exact g2 n20 fun l9 g3 n9=>
Jl v20 fun cg4=>
cg4.length=11∧Xw g3 l9 0 cg4 fun g4=>
kLd g4 l9 (0+0) fun v22=>
Xb .int .eql v22 (.int .i64 1) fun v24=>
Qa v24 (
JA C K (puts (Qq [a0,a1,a2]) [(6,.int .u64 0),(7,.bool false),(8,.slice none 0 0),(10,a0),(11,v11),(12,.bool false),(13,a1),(14,a2),(15,v15),(16,v16),(17,v16),(18,a0),(19,a1),(20,v20),(9,ptr l9 0),(21,(ptr l9 (0+0))),(22,v22),(24,v24),(23,v24)]) g4 n9) (
Xb .int .eql v22 (.int .i64 2) fun v25=>
Qa v25 (
JA C K (puts (Qq [a0,a1,a2]) [(6,.int .u64 0),(7,.bool false),(8,.slice none 0 0),(10,a0),(11,v11),(12,.bool false),(13,a1),(14,a2),(15,v15),(16,v16),(17,v16),(18,a0),(19,a1),(20,v20),(9,ptr l9 0),(21,(ptr l9 (0+0))),(22,v22),(24,v24),(23,v24),(25,v25),(23,v25)]) g4 n9) (
Xb .int .eql v22 (.int .i64 3) fun v26=>
Qa v26 (
JA C K (puts (Qq [a0,a1,a2]) [(6,.int .u64 0),(7,.bool false),(8,.slice none 0 0),(10,a0),(11,v11),(12,.bool false),(13,a1),(14,a2),(15,v15),(16,v16),(17,v16),(18,a0),(19,a1),(20,v20),(9,ptr l9 0),(21,(ptr l9 (0+0))),(22,v22),(24,v24),(23,v24),(25,v25),(23,v25),(26,v26),(23,v26)]) g4 n9) (
Xb .int .eql v22 (.int .i64 6) fun v27=>
JA C K (puts (Qq [a0,a1,a2]) [(6,.int .u64 0),(7,.bool false),(8,.slice none 0 0),(10,a0),(11,v11),(12,.bool false),(13,a1),(14,a2),(15,v15),(16,v16),(17,v16),(18,a0),(19,a1),(20,v20),(9,ptr l9 0),(21,(ptr l9 (0+0))),(22,v22),(24,v24),(23,v24),(25,v25),(23,v25),(26,v26),(23,v26),(27,v27),(23,v27)]) g4 n9)))))
theorem XbC (C:CT) (a0 a1 a2:Value) (g:G) (n:Nat) (K:Cont):Ja6 C a0 a1 a2 g n K=Zg Tryz.prog C Zai [a0,a1,a2] g n K:=by kernel_rfl
def Za6 (C:CT) (K:Cont) (I_l1:Qn) (t:Env) (g:G) (n:Nat):Prop:=
Xb .int .lss (t 8) (t 7) fun v9=>
Qa v9 (
Jc (t 6) (t 8) 12 fun v10=>
Qe v10 fun l11 o11=>
Zn g l11 o11 12 fun c11=>
Zw [.int .i64 0,.int .i64 0,.bool false,.bool false,.int .u64 0,.int .u64 0,.int .u64 0,.int .u64 0,.int .u64 0,.int .u64 0,.int .u64 0,.int .u64 0] .exact g n fun l5 g1 n5=>
Jl (.agg c11.toArray) fun cg2=>
cg2.length=12∧Xw g1 l5 0 cg2 fun g2=>
Qo (t 0) fun v13=>
Qe v13 fun l14 o14=>
Zn g2 l5 0 12 fun c15=>
C Zv [(ptr l14 (o14+1)),.agg c15.toArray] g2 n5 fun v16 g3 n16=>
Xb .int .add (t 8) (.int .i64 1) fun v17=>
I_l1 (puts t [(9,v9),(10,v10),(11,.agg c11.toArray),(5,ptr l5 0),(12,t 0),(13,v13),(14,(ptr l14 (o14+1))),(15,.agg c15.toArray),(16,v16),(17,v17),(8,v17)]) g3 n16) (
Qc K (.tuple #[]) g n)
def QbQ (C:CT) (a0 a1:Value) (g:G) (n:Nat) (K:Cont):Prop:=
ZaH a1 fun v7=>
lfp (Za6 C K) (puts (Qq [a0,a1]) [(6,a1),(7,v7),(8,.int .i64 0)]) g n
theorem Jch (C:CT) (a0 a1:Value) (g:G) (n:Nat) (K:Cont):QbQ C a0 a1 g n K=Zg Tryz.prog C QW [a0,a1] g n K:=by kernel_rfl
def Za9 (C:CT) (a0 a1:Value) (g:G) (n:Nat) (K:Cont):Prop:=
C Zo [a0,a1] g n fun v12 g1 n12=>
kUn .not v12 fun v13=>
Qa v13 (
Qc K (.int .i64 1) g1 n12) (
Qo a0 fun v16=>
Qe v16 fun l17 o17=>
kLd g1 l17 (o17+8) fun v18=>
Jc v18 a1 15 fun v20=>
Qe v20 fun l21 o21=>
Zn g1 l21 o21 15 fun c21=>
C JaJ [.agg c21.toArray] g1 n12 fun v22 g2 n22=>
kUn .not v22 fun v23=>
Qa v23 (
Qc K (.int .i64 16) g2 n22) (
C QO [a0,a1] g2 n22 fun v26 g3 n26=>
Xb .int .neq v26 (.int .i64 0) fun v28=>
Qa v28 (
Qc K v26 g3 n26) (
Qo a0 fun v32=>
Qe v32 fun l33 o33=>
kLd g3 l33 (o33+8) fun v34=>
Jc v34 a1 15 fun v36=>
Qe v36 fun l37 o37=>
Zn g3 l37 o37 15 fun c37=>
C Ja0 [.agg c37.toArray] g3 n26 fun v38 g4 n38=>
Xd v38 0 fun v39=>
Xd v38 1 fun v40=>
Xd v38 2 fun v41=>
Zw [.bool false,.bool false,.int .u64 0,.int .u64 0,.int .u64 0,.int .u64 0,.int .u64 0,.int .u64 0,.int .u64 0,.int .u64 0,.int .i64 0,.int .u8 0,.int .i64 0,.int .i64 0,.int .u8 0] .exact g4 n38 fun l6 g5 n6=>
Jl v39 fun cg6=>
cg6.length=15∧Xw g5 l6 0 cg6 fun g6=>
Xb .int .neq v41 (.int .i64 0) fun v43=>
Qa v43 (
Qc K v41 g6 n6) (
Qo a0 fun v46=>
Qe v46 fun l47 o47=>
kLd g6 l47 (o47+8) fun v48=>
Zn g6 l6 0 15 fun c50=>
Jc v48 a1 15 fun v51=>
Qe v51 fun lg7 og7=>
Jl (.agg c50.toArray) fun cg7=>
cg7.length=15∧Xw g6 lg7 og7 cg7 fun g7=>
C Jk [a0,v40,a1] g7 n6 fun v55 g8 n55=>
Qc K (.int .i64 0) g8 n55))))
theorem XbH (C:CT) (a0 a1:Value) (g:G) (n:Nat) (K:Cont):Za9 C a0 a1 g n K=Zg Tryz.prog C Jai [a0,a1] g n K:=by kernel_rfl
def QaT (C:CT) (a0 a1:Value) (g:G) (n:Nat) (K:Cont):Prop:=
C Zo [a0,a1] g n fun v7 g1 n7=>
kUn .not v7 fun v8=>
Qa v8 (
Qc K (.int .i64 1) g1 n7) (
Qo a0 fun v10=>
Qe v10 fun l11 o11=>
kLd g1 l11 (o11+9) fun v12=>
C Xm [v12,a1] g1 n7 fun v14 g2 n14=>
Qc K v14 g2 n14)
theorem Xbv (C:CT) (a0 a1:Value) (g:G) (n:Nat) (K:Cont):QaT C a0 a1 g n K=Zg Tryz.prog C Zac [a0,a1] g n K:=by kernel_rfl
def QbA (C:CT) (a0 a1:Value) (g:G) (n:Nat) (K:Cont):Prop:=
Jl a1 fun c3=>
Zw c3 .exact g n fun l3 g1 n3=>
Xb .ptr .eql a0 (.pointer none) fun v7=>
Qa v7 (
Qc K (.int .i64 1) g1 n3) (
Zn g1 l3 0 12 fun c9=>
C Jas [.agg c9.toArray] g1 n3 fun v10 g2 n10=>
kUn .not v10 fun v11=>
Qa v11 (
Qc K (.int .i64 11) g2 n10) (
Qo a0 fun v14=>
Qe v14 fun l15 o15=>
kLd g2 l15 (o15+0) fun v16=>
ZaH v16 fun v17=>
Xb .int .geq v17 (.int .i64 1000) fun v18=>
Qa v18 (
Qc K (.int .i64 13) g2 n10) (
Qo a0 fun v21=>
Qe v21 fun l22 o22=>
kLd g2 l22 (o22+0) fun v23=>
Zn g2 l3 0 12 fun c24=>
Xk (reps 1 [.int .i64 0,.int .i64 0,.bool false,.bool false,.int .u64 0,.int .u64 0,.int .u64 0,.int .u64 0,.int .u64 0,.int .u64 0,.int .u64 0,.int .u64 0]) [(0,some 12,.agg c24.toArray)] fun c25=>
Zw c25 .exact g2 n10 fun l25 g3 n25=>
(Qe (ptr l22 (o22+0)) fun l _=>g3 l=g2 l)∧Q5 v23 (.slice (some ⟨l25,0,none⟩) 1 1) 12 88 g3 n25 fun v26 g4 n26=>
Qo a0 fun v27=>
Qe v27 fun l28 o28=>
kSt g4 l28 (o28+0) v26 fun g5=>
Qc K (.int .i64 0) g5 n26)))
theorem Qb2 (C:CT) (a0 a1:Value) (g:G) (n:Nat) (K:Cont):QbA C a0 a1 g n K=Zg Tryz.prog C Zv [a0,a1] g n K:=by kernel_rfl
def QaM (C:CT) (K:Cont) (I_l1:Qn) (t:Env) (g:G) (n:Nat):Prop:=
Xb .int .lss (t 18) (t 17) fun v19=>
Qa v19 (
Jc (t 16) (t 18) 9 fun v20=>
Qe v20 fun l21 o21=>
Zn g l21 o21 9 fun c21=>
Zw [.int .i64 0,.int .u64 0,.int .u64 0,.int .u64 0,.int .u64 0,.int .u64 0,.int .u64 0,.int .u64 0,.int .u64 0] .exact g n fun l5 g2 n5=>
Jl (.agg c21.toArray) fun cg3=>
cg3.length=9∧Xw g2 l5 0 cg3 fun g3=>
kLd g3 l5 (0+0) fun v24=>
Zn g3 l5 (0+1) 8 fun c26=>
Jc (t 3) v24 8 fun v27=>
Qe v27 fun lg4 og4=>
Jl (.agg c26.toArray) fun cg4=>
cg4.length=8∧Xw g3 lg4 og4 cg4 fun g4=>
Xb .int .add (t 18) (.int .i64 1) fun v28=>
I_l1 (puts t [(19,v19),(20,v20),(21,.agg c21.toArray),(5,ptr l5 0),(22,t 3),(23,(ptr l5 (0+0))),(24,v24),(25,(ptr l5 (0+1))),(26,.agg c26.toArray),(27,v27),(28,v28),(18,v28)]) g4 n5) (
Qc K (t 3) g n)
def Zbi (C:CT) (a0:Value) (g:G) (n:Nat) (K:Cont):Prop:=
Xb .ptr .eql a0 (.pointer none) fun v7=>
Qa v7 (
Qc K (.slice none 0 0) g n) (
Qo a0 fun v9=>
Qe v9 fun l10 o10=>
kLd g l10 (o10+0) fun v11=>
C Zah [v11] g n fun v12 g1 n12=>
Qo a0 fun v14=>
Qe v14 fun l15 o15=>
kLd g1 l15 (o15+2) fun v16=>
ZaH v16 fun v17=>
lfp (QaM C K) (puts (Qq [a0]) [(2,.slice none 0 0),(6,a0),(7,v7),(8,a0),(9,v9),(10,(ptr l10 (o10+0))),(11,v11),(12,v12),(3,v12),(13,a0),(14,v14),(15,(ptr l15 (o15+2))),(16,v16),(17,v17),(18,.int .i64 0)]) g1 n12)
theorem QbP (C:CT) (a0:Value) (g:G) (n:Nat) (K:Cont):Zbi C a0 g n K=Zg Tryz.prog C Jao [a0] g n K:=by kernel_rfl
def XaW (C:CT) (a0 a1:Value) (g:G) (n:Nat) (K:Cont):Prop:=
Qo a0 fun v6=>
Qe v6 fun l7 o7=>
kLd g l7 (o7+8) fun v8=>
Jc v8 a1 15 fun v10=>
Qe v10 fun l11 o11=>
kLd g l11 (o11+1) fun v12=>
kUn .not v12 fun v13=>
Qa v13 (
Qc K (.int .i64 0) g n) (
Qo a0 fun v15=>
Qe v15 fun l16 o16=>
kLd g l16 (o16+9) fun v17=>
Qo a0 fun v20=>
Qe v20 fun l21 o21=>
kLd g l21 (o21+8) fun v22=>
Jc v22 a1 15 fun v24=>
Qe v24 fun l25 o25=>
Zn g l25 (o25+2) 8 fun c26=>
C Qp [v17,a1,.agg c26.toArray] g n fun v27 g1 n27=>
Qc K v27 g1 n27)
theorem Jbu (C:CT) (a0 a1:Value) (g:G) (n:Nat) (K:Cont):XaW C a0 a1 g n K=Zg Tryz.prog C QO [a0,a1] g n K:=by kernel_rfl
def QaR (C:CT) (a0 a1:Value) (g:G) (n:Nat) (K:Cont):Prop:=
Xb .ptr .eql a0 (.pointer none) fun v8=>
Qa v8 (
Qc K (.tuple #[.slice none 0 0,.int .i64 1]) g n) (
C ZV [a0] g n fun v10 g1 n10=>
kUn .not v10 fun v11=>
Qa v11 (
Qc K (.tuple #[.slice none 0 0,.int .i64 15]) g1 n10) (
C Ql [a0,a1] g1 n10 fun v14 g2 n14=>
Zw [.int .i64 0,.int .i64 0,.int .u64 0,.int .u64 0,.int .u64 0,.int .u64 0,.int .u64 0,.int .u64 0,.int .u64 0,.int .u64 0,.int .i64 0] .exact g2 n14 fun l6 g3 n6=>
Jl v14 fun cg4=>
cg4.length=11∧Xw g3 l6 0 cg4 fun g4=>
kLd g4 l6 (0+0) fun v16=>
Xb .int .eql v16 (.int .i64 0) fun v17=>
Qa v17 (
Qc K (.tuple #[.slice none 0 0,.int .i64 14]) g4 n6) (
Zn g4 l6 0 11 fun c19=>
C JN [a0,.agg c19.toArray] g4 n6 fun v20 g5 n20=>
Qc K (.tuple #[v20,.int .i64 0]) g5 n20)))
theorem Xbu (C:CT) (a0 a1:Value) (g:G) (n:Nat) (K:Cont):QaR C a0 a1 g n K=Zg Tryz.prog C Jab [a0,a1] g n K:=by kernel_rfl
def XaR (C:CT) (a0:Value) (g:G) (n:Nat) (K:Cont):Prop:=
Xb .ptr .eql a0 (.pointer none) fun v4=>
Qa v4 (
Qc K (.slice none 0 0) g n) (
Qo a0 fun v6=>
Qe v6 fun l7 o7=>
kLd g l7 (o7+0) fun v8=>
C JF [v8] g n fun v9 g1 n9=>
Qc K v9 g1 n9)
theorem Qbv (C:CT) (a0:Value) (g:G) (n:Nat) (K:Cont):XaR C a0 g n K=Zg Tryz.prog C Zab [a0] g n K:=by kernel_rfl
def JaL (C:CT) (K:Cont) (I_l1:Qn) (t:Env) (g:G) (n:Nat):Prop:=
Xb .int .lss (t 13) (t 12) fun v14=>
Qa v14 (
Jc (t 11) (t 13) 9 fun v15=>
Qe v15 fun l16 o16=>
Zn g l16 o16 9 fun c16=>
Zw [.int .i64 0,.int .u64 0,.int .u64 0,.int .u64 0,.int .u64 0,.int .u64 0,.int .u64 0,.int .u64 0,.int .u64 0] .exact g n fun l5 g1 n5=>
Jl (.agg c16.toArray) fun cg2=>
cg2.length=9∧Xw g1 l5 0 cg2 fun g2=>
kLd g2 l5 (0+0) fun v19=>
Xk (reps 1 [.int .i64 0]) [(0,none,v19)] fun c20=>
Zw c20 .exact g2 n5 fun l20 g3 n20=>
Q5 (t 3) (.slice (some ⟨l20,0,none⟩) 1 1) 1 8 g3 n20 fun v21 g4 n21=>
Xb .int .add (t 13) (.int .i64 1) fun v22=>
I_l1 (puts t [(14,v14),(15,v15),(16,.agg c16.toArray),(5,ptr l5 0),(17,t 3),(18,(ptr l5 (0+0))),(19,v19),(20,(.slice (some ⟨l20,0,none⟩) 1 1)),(21,v21),(3,v21),(22,v22),(13,v22)]) g4 n21) (
Qc K (t 3) g n)
def Qbg (C:CT) (a0:Value) (g:G) (n:Nat) (K:Cont):Prop:=
Xb .ptr .eql a0 (.pointer none) fun v7=>
Qa v7 (
Qc K (.slice none 0 0) g n) (
Qo a0 fun v9=>
Qe v9 fun l10 o10=>
kLd g l10 (o10+2) fun v11=>
ZaH v11 fun v12=>
lfp (JaL C K) (puts (Qq [a0]) [(2,.slice none 0 0),(3,.slice none 0 0),(6,a0),(7,v7),(8,a0),(9,v9),(10,(ptr l10 (o10+2))),(11,v11),(12,v12),(13,.int .i64 0)]) g n)
theorem JbO (C:CT) (a0:Value) (g:G) (n:Nat) (K:Cont):Qbg C a0 g n K=Zg Tryz.prog C Xao [a0] g n K:=by kernel_rfl
def JaU (C:CT) (a0 a1 a2 a3:Value) (g:G) (n:Nat) (K:Cont):Prop:=
Xb .ptr .eql a0 (.pointer none) fun v12=>
Qa v12 (
Qc K (.tuple #[.bool false,.slice none 0 0]) g n) (
C JaE [a1,a2] g n fun v16 g1 n16=>
kUn .not v16 fun v17=>
Qa v17 (
Qc K (.tuple #[.bool false,.slice none 0 0]) g1 n16) (
C XU [a0,a1] g1 n16 fun v21 g2 n21=>
kUn .not v21 fun v22=>
Qa v22 (
C Xaa [a0,a1] g2 n21 fun v25 g3 n25=>
Qc K (.tuple #[.bool false,v25]) g3 n25) (
C Ql [a0,a1] g2 n21 fun v28 g4 n28=>
Zw [.int .i64 0,.int .i64 0,.int .u64 0,.int .u64 0,.int .u64 0,.int .u64 0,.int .u64 0,.int .u64 0,.int .u64 0,.int .u64 0,.int .i64 0] .exact g4 n28 fun l10 g5 n10=>
Jl v28 fun cg6=>
cg6.length=11∧Xw g5 l10 0 cg6 fun g6=>
ZD (ptr l10 (0+2)) a2 8 1 fun v32=>
Qe v32 fun lg7 og7=>
kSt g6 lg7 og7 a3 fun g7=>
Qo a0 fun v34=>
Qe v34 fun l35 o35=>
kLd g7 l35 (o35+0) fun v36=>
Zn g7 l10 (0+2) 8 fun c39=>
C ZE [v36,a1,.int .i64 3,.agg c39.toArray] g7 n10 fun v40 g8 n40=>
Qc K (.tuple #[.bool true,.slice none 0 0]) g8 n40)))
theorem Xbw (C:CT) (a0 a1 a2 a3:Value) (g:G) (n:Nat) (K:Cont):JaU C a0 a1 a2 a3 g n K=Zg Tryz.prog C Xab [a0,a1,a2,a3] g n K:=by kernel_rfl
def Qby (C:CT) (a0:Value) (g:G) (n:Nat) (K:Cont):Prop:=
Zw [.int .i64 0,.int .i64 0,.bool false,.bool false,.int .u64 0,.int .u64 0,.int .u64 0,.int .u64 0,.int .u64 0,.int .u64 0,.int .u64 0,.int .u64 0] .exact g n fun l2 g1 n2=>
C Qaf [a0] g1 n2 fun v5 g2 n5=>
Xb .int .eql v5 (.int .i64 0) fun v6=>
Qa v6 (
Xk [.int .i64 0,.int .i64 0,.bool false,.bool false,.int .u64 0,.int .u64 0,.int .u64 0,.int .u64 0,.int .u64 0,.int .u64 0,.int .u64 0,.int .u64 0] [] fun c7=>
Jl (.agg c7.toArray) fun cg3=>
cg3.length=12∧Xw g2 l2 0 cg3 fun g3=>
Zn g3 l2 0 12 fun r0=>
Qc K (.tuple #[.agg r0.toArray,.bool false]) g3 n5) (
Qo a0 fun v9=>
Qe v9 fun l10 o10=>
kLd g2 l10 (o10+0) fun v11=>
Jc v11 (.int .i64 0) 12 fun v12=>
Qe v12 fun l13 o13=>
Zn g2 l13 o13 12 fun c13=>
Jl (.agg c13.toArray) fun cg4=>
cg4.length=12∧Xw g2 l2 0 cg4 fun g4=>
Zn g4 l2 0 12 fun r0=>
Qc K (.tuple #[.agg r0.toArray,.bool true]) g4 n5)
theorem Qb8 (C:CT) (a0:Value) (g:G) (n:Nat) (K:Cont):Qby C a0 g n K=Zg Tryz.prog C ZQ [a0] g n K:=by kernel_rfl
def Xa5 (C:CT) (a0 a1:Value) (g:G) (n:Nat) (K:Cont):Prop:=
Qo a0 fun v6=>
Qe v6 fun l7 o7=>
kLd g l7 (o7+8) fun v8=>
Jc v8 a1 15 fun v10=>
Qo v10 fun v12=>
Qe v12 fun l13 o13=>
kLd g l13 (o13+0) fun v14=>
kUn .not v14 fun v15=>
Qa v15 (
Qo a0 fun v19=>
Qe v19 fun l20 o20=>
kLd g l20 (o20+9) fun v21=>
C ZaP [v21,a1] g n fun v23 g1 n23=>
Xd v23 0 fun v24=>
Xd v23 1 fun v25=>
Qo v10 fun v26=>
Qe v26 fun l27 o27=>
Jl v24 fun cg2=>
cg2.length=8∧Xw g1 l27 (o27+2) cg2 fun g2=>
Qo v10 fun v29=>
Qe v29 fun l30 o30=>
kSt g2 l30 (o30+0) (.bool true) fun g3=>
Qc K (.tuple #[]) g3 n23) (
Qc K (.tuple #[]) g n)
theorem XbG (C:CT) (a0 a1:Value) (g:G) (n:Nat) (K:Cont):Xa5 C a0 a1 g n K=Zg Tryz.prog C Zaj [a0,a1] g n K:=by kernel_rfl
def Qff (C:CT) (a0 a1 a2:Value) (g:G) (n:Nat) (K:Cont):Prop:=
Jl a0 fun c3=>
Zw c3 .exact g n fun l3 g1 n3=>
Jl a2 fun c5=>
Zw c5 .exact g1 n3 fun l5 g2 n5=>
Zw [.bool false,.bool false,.int .u64 0,.int .u64 0,.int .u64 0,.int .u64 0,.int .u64 0,.int .u64 0,.int .u64 0,.int .u64 0,.int .i64 0,.int .u8 0,.int .i64 0,.int .i64 0,.int .u8 0] .exact g2 n5 fun l6 g3 n6=>
Zn g3 l3 0 15 fun c11=>
C JaB [.agg c11.toArray] g3 n6 fun v12 g4 n12=>
kUn .not v12 fun v13=>
Qa v13 (
Xk [.bool false,.bool false,.int .u64 0,.int .u64 0,.int .u64 0,.int .u64 0,.int .u64 0,.int .u64 0,.int .u64 0,.int .u64 0,.int .i64 0,.int .u8 0,.int .i64 0,.int .i64 0,.int .u8 0] [] fun c30=>
Jl (.agg c30.toArray) fun cg5=>
cg5.length=15∧Xw g4 l6 0 cg5 fun g5=>
Zn g5 l6 0 15 fun r0=>
Qc K (.tuple #[.agg r0.toArray,.slice none 0 0,.int .i64 1]) g5 n12) (
C Zat [a1] g4 n12 fun v16 g6 n16=>
kUn .not v16 fun v17=>
Qa v17 (
Xk [.bool false,.bool false,.int .u64 0,.int .u64 0,.int .u64 0,.int .u64 0,.int .u64 0,.int .u64 0,.int .u64 0,.int .u64 0,.int .i64 0,.int .u8 0,.int .i64 0,.int .i64 0,.int .u8 0] [] fun c30=>
Jl (.agg c30.toArray) fun cg7=>
cg7.length=15∧Xw g6 l6 0 cg7 fun g7=>
Zn g7 l6 0 15 fun r0=>
Qc K (.tuple #[.agg r0.toArray,.slice none 0 0,.int .i64 1]) g7 n16) (
Zn g6 l5 0 12 fun c20=>
C Jas [.agg c20.toArray] g6 n16 fun v21 g8 n21=>
kUn .not v21 fun v22=>
Qa v22 (
Xk [.bool false,.bool false,.int .u64 0,.int .u64 0,.int .u64 0,.int .u64 0,.int .u64 0,.int .u64 0,.int .u64 0,.int .u64 0,.int .i64 0,.int .u8 0,.int .i64 0,.int .i64 0,.int .u8 0] [] fun c30=>
Jl (.agg c30.toArray) fun cg9=>
cg9.length=15∧Xw g8 l6 0 cg9 fun g9=>
Zn g9 l6 0 15 fun r0=>
Qc K (.tuple #[.agg r0.toArray,.slice none 0 0,.int .i64 1]) g9 n21) (
kLd g8 l5 (0+0) fun v26=>
C ZbI [v26] g8 n21 fun v27 g10 n27=>
kUn .not v27 fun v28=>
Qa v28 (
Xk [.bool false,.bool false,.int .u64 0,.int .u64 0,.int .u64 0,.int .u64 0,.int .u64 0,.int .u64 0,.int .u64 0,.int .u64 0,.int .i64 0,.int .u8 0,.int .i64 0,.int .i64 0,.int .u8 0] [] fun c30=>
Jl (.agg c30.toArray) fun cg11=>
cg11.length=15∧Xw g10 l6 0 cg11 fun g11=>
Zn g11 l6 0 15 fun r0=>
Qc K (.tuple #[.agg r0.toArray,.slice none 0 0,.int .i64 1]) g11 n27) (
kLd g10 l3 (0+12) fun v33=>
Xb .int .neq v33 (.int .i64 0) fun v34=>
Qa v34 (
Xk [.bool false,.bool false,.int .u64 0,.int .u64 0,.int .u64 0,.int .u64 0,.int .u64 0,.int .u64 0,.int .u64 0,.int .u64 0,.int .i64 0,.int .u8 0,.int .i64 0,.int .i64 0,.int .u8 0] [] fun c35=>
Jl (.agg c35.toArray) fun cg12=>
cg12.length=15∧Xw g10 l6 0 cg12 fun g12=>
Zn g12 l6 0 15 fun r0=>
Qc K (.tuple #[.agg r0.toArray,.slice none 0 0,.int .i64 15]) g12 n27) (
kLd g10 l3 (0+0) fun v38=>
kUn .not v38 fun v39=>
Qa v39 (
Xk [.bool false,.bool false,.int .u64 0,.int .u64 0,.int .u64 0,.int .u64 0,.int .u64 0,.int .u64 0,.int .u64 0,.int .u64 0,.int .i64 0,.int .u8 0,.int .i64 0,.int .i64 0,.int .u8 0] [] fun c40=>
Jl (.agg c40.toArray) fun cg13=>
cg13.length=15∧Xw g10 l6 0 cg13 fun g13=>
Zn g13 l6 0 15 fun r0=>
Qc K (.tuple #[.agg r0.toArray,.slice none 0 0,.int .i64 16]) g13 n27) (
Zn g10 l3 0 15 fun c41=>
kLd g10 l5 (0+1) fun v43=>
Xk [.bool false,.bool false,.int .u64 0,.int .u64 0,.int .u64 0,.int .u64 0,.int .u64 0,.int .u64 0,.int .u64 0,.int .u64 0,.int .i64 0,.int .u8 0,.int .i64 0,.int .i64 0,.int .u8 0,.int .i64 0,.slice none 0 0] [(0,some 15,.agg c41.toArray),(15,none,v43)] fun c44=>
Jl (.agg c44.toArray) fun c45=>
Zw c45 .exact g10 n27 fun l45 g14 n45=>
kLd g14 l5 (0+0) fun v48=>
Zn g14 l5 0 12 fun c52=>
C XbB [] g14 n45 fun v46 g15 n46=>
(Qe (ptr l5 (0+0)) fun l _=>g15 l=g14 l)∧(Qe (ptr l5 0) fun l _=>g15 l=g14 l)∧Xdl v46 v48 6 1 none fun v49=>
Zbl C v49 [ptr l45 0,a1,.agg c52.toArray] g15 n46 fun v53 g16 n53=>
Zn g16 l45 (0+0) 15 fun c57=>
kLd g16 l45 (0+16) fun v61=>
Jl (.agg c57.toArray) fun cg17=>
cg17.length=15∧Xw g16 l6 0 cg17 fun g17=>
(Qe (ptr l45 (0+16)) fun l _=>g17 l=g16 l)∧Zn g17 l6 0 15 fun r0=>
Qc K (.tuple #[.agg r0.toArray,v61,.int .i64 0]) g17 n53))))))
theorem Jez (C:CT) (a0 a1 a2:Value) (g:G) (n:Nat) (K:Cont):Qff C a0 a1 a2 g n K=Zg Tryz.prog C Xbt [a0,a1,a2] g n K:=by kernel_rfl
def Qae (C:CT) (K:Cont) (t:Env) (g:G) (n:Nat):Prop:=
Qe (t 4) fun l20 o20=>
Zn g l20 o20 12 fun c20=>
Qe (t 2) fun lg6 og6=>
Jl (.agg c20.toArray) fun cg6=>
cg6.length=12∧Xw g lg6 og6 cg6 fun g6=>
Qe (t 2) fun lr0 or0=>
Zn g6 lr0 or0 12 fun r0=>
Qc K (.tuple #[.agg r0.toArray,t 5]) g6 n
def JbU (C:CT) (a0:Value) (g:G) (n:Nat) (K:Cont):Prop:=
Zw [.int .i64 0,.int .i64 0,.bool false,.bool false,.int .u64 0,.int .u64 0,.int .u64 0,.int .u64 0,.int .u64 0,.int .u64 0,.int .u64 0,.int .u64 0] .exact g n fun l2 g1 n2=>
C ZQ [a0] g1 n2 fun v8 g2 n8=>
Xd v8 0 fun v9=>
Xd v8 1 fun v10=>
Zw [.int .i64 0,.int .i64 0,.bool false,.bool false,.int .u64 0,.int .u64 0,.int .u64 0,.int .u64 0,.int .u64 0,.int .u64 0,.int .u64 0,.int .u64 0] .exact g2 n8 fun l4 g3 n4=>
Jl v9 fun cg4=>
cg4.length=12∧Xw g3 l4 0 cg4 fun g4=>
Qa v10 (
Qo a0 fun v14=>
Qe v14 fun l15 o15=>
kLd g4 l15 (o15+0) fun v16=>
Xu v16 (some (.int .i64 1)) none none 12 fun v17=>
Qo a0 fun v18=>
Qe v18 fun l19 o19=>
kSt g4 l19 (o19+0) v17 fun g5=>
Qae C K (puts (Qq [a0]) [(2,ptr l2 0),(3,.bool false),(7,a0),(8,v8),(6,v8),(9,v9),(10,v10),(4,ptr l4 0),(5,v10),(11,v10),(12,a0),(13,a0),(14,v14),(15,(ptr l15 (o15+0))),(16,v16),(17,v17),(18,v18),(19,(ptr l19 (o19+0)))]) g5 n4) (
Qae C K (puts (Qq [a0]) [(2,ptr l2 0),(3,.bool false),(7,a0),(8,v8),(6,v8),(9,v9),(10,v10),(4,ptr l4 0),(5,v10),(11,v10)]) g4 n4)
theorem Zcg (C:CT) (a0:Value) (g:G) (n:Nat) (K:Cont):JbU C a0 g n K=Zg Tryz.prog C Xr [a0] g n K:=by kernel_rfl
def Jax (C:CT) (K:Cont) (I_l1:Qn) (t:Env) (g:G) (n:Nat):Prop:=
Xb .int .lss (t 11) (t 10) fun v12=>
Qa v12 (
Jc (t 9) (t 11) 13 fun v13=>
Qe v13 fun l14 o14=>
Zn g l14 o14 13 fun c14=>
Zw [.int .i64 0,.int .i64 0,.int .i64 0,.bool false,.bool false,.int .u64 0,.int .u64 0,.int .u64 0,.int .u64 0,.int .u64 0,.int .u64 0,.int .u64 0,.int .u64 0] .exact g n fun l7 g1 n7=>
Jl (.agg c14.toArray) fun cg2=>
cg2.length=13∧Xw g1 l7 0 cg2 fun g2=>
kSt g2 l7 (0+1+1) (t 2) fun g3=>
kLd g3 l7 (0+0) fun v20=>
C Xp [t 0,v20] g3 n7 fun v21 g4 n21=>
Xb .ptr .neq v21 (.pointer none) fun v23=>
Qa v23 (
Qo v21 fun v25=>
Qe v25 fun l26 o26=>
Zn g4 l7 (0+1) 12 fun c28=>
C Zv [(ptr l26 (o26+3)),.agg c28.toArray] g4 n21 fun v29 g5 n29=>
Xb .int .add (t 11) (.int .i64 1) fun v30=>
I_l1 (puts t [(12,v12),(13,v13),(14,.agg c14.toArray),(7,ptr l7 0),(15,t 2),(16,(ptr l7 (0+1))),(17,(ptr l7 (0+1+1))),(18,t 0),(19,(ptr l7 (0+0))),(20,v20),(21,v21),(8,v21),(22,v21),(23,v23),(24,v21),(25,v25),(26,(ptr l26 (o26+3))),(27,(ptr l7 (0+1))),(28,.agg c28.toArray),(29,v29),(30,v30),(11,v30)]) g5 n29) (
Xb .int .add (t 11) (.int .i64 1) fun v30=>
I_l1 (puts t [(12,v12),(13,v13),(14,.agg c14.toArray),(7,ptr l7 0),(15,t 2),(16,(ptr l7 (0+1))),(17,(ptr l7 (0+1+1))),(18,t 0),(19,(ptr l7 (0+0))),(20,v20),(21,v21),(8,v21),(22,v21),(23,v23),(30,v30),(11,v30)]) g4 n21)) (
Qc K (.tuple #[]) g n)
def ZaT (C:CT) (a0 a1 a2:Value) (g:G) (n:Nat) (K:Cont):Prop:=
ZaH a1 fun v10=>
lfp (Jax C K) (puts (Qq [a0,a1,a2]) [(9,a1),(10,v10),(11,.int .i64 0)]) g n
theorem Zbv (C:CT) (a0 a1 a2:Value) (g:G) (n:Nat) (K:Cont):ZaT C a0 a1 a2 g n K=Zg Tryz.prog C Jk [a0,a1,a2] g n K:=by kernel_rfl
def QU (C:CT) (K:Cont) (t:Env) (g:G) (n:Nat):Prop:=
Qo (t 0) fun v66=>
Qe v66 fun l67 o67=>
kLd g l67 (o67+0) fun v68=>
Qe (t 3) fun l69 o69=>
kLd g l69 (o69+1) fun v70=>
Qe (t 8) fun l72 o72=>
Zn g l72 o72 8 fun c72=>
C ZE [v68,v70,t 7,.agg c72.toArray] g n fun v73 g14 n73=>
Qe (t 3) fun l74 o74=>
Zn g14 l74 o74 12 fun c74=>
Qe (t 6) fun l75 o75=>
Zn g14 l75 o75 11 fun c75=>
C Xaq [.agg c74.toArray,.agg c75.toArray,t 7] g14 n73 fun v77 g15 n77=>
Qc K (.tuple #[v77,.int .i64 0]) g15 n77
def QJ (C:CT) (K:Cont) (t:Env) (g:G) (n:Nat):Prop:=
Qa (t 59) (
Qe (t 3) fun l63 o63=>
Zn g l63 (o63+4) 8 fun c64=>
Qe (t 8) fun lg13 og13=>
Jl (.agg c64.toArray) fun cg13=>
cg13.length=8∧Xw g lg13 og13 cg13 fun g13=>
QU C K (puts t [(63,(ptr l63 (o63+4))),(64,.agg c64.toArray)]) g13 n) (
QU C K t g n)
def QS (C:CT) (K:Cont) (t:Env) (g:G) (n:Nat):Prop:=
Qe (t 3) fun l57 o57=>
kLd g l57 (o57+0) fun v58=>
Xb .int .eql v58 (.int .i64 8) fun v60=>
Qa v60 (
QJ C K (puts t [(57,(ptr l57 (o57+0))),(58,v58),(60,v60),(59,v60)]) g n) (
Xb .int .eql v58 (.int .i64 9) fun v61=>
Qa v61 (
QJ C K (puts t [(57,(ptr l57 (o57+0))),(58,v58),(60,v60),(59,v60),(61,v61),(59,v61)]) g n) (
Xb .int .eql v58 (.int .i64 10) fun v62=>
QJ C K (puts t [(57,(ptr l57 (o57+0))),(58,v58),(60,v60),(59,v60),(61,v61),(59,v61),(62,v62),(59,v62)]) g n))
def ZU (C:CT) (K:Cont) (t:Env) (g:G) (n:Nat):Prop:=
Qa (t 53) (
Xk [.int .u64 0,.int .u64 0,.int .u64 0,.int .u64 0,.int .u64 0,.int .u64 0,.int .u64 0,.int .u64 0] [] fun c56=>
Qe (t 8) fun lg12 og12=>
Jl (.agg c56.toArray) fun cg12=>
cg12.length=8∧Xw g lg12 og12 cg12 fun g12=>
QS C K (puts t [(56,.agg c56.toArray)]) g12 n) (
QS C K t g n)
def Qa8 (C:CT) (a0 a1:Value) (g:G) (n:Nat) (K:Cont):Prop:=
Jl a1 fun c3=>
Zw c3 .exact g n fun l3 g1 n3=>
Xb .ptr .eql a0 (.pointer none) fun v10=>
Qa v10 (
Qc K (.tuple #[.slice none 0 0,.int .i64 1]) g1 n3) (
Zn g1 l3 0 12 fun c12=>
C Jas [.agg c12.toArray] g1 n3 fun v13 g2 n13=>
kUn .not v13 fun v14=>
Qa v14 (
Qc K (.tuple #[.slice none 0 0,.int .i64 1]) g2 n13) (
kLd g2 l3 (0+0) fun v18=>
C Xbn [v18] g2 n13 fun v19 g3 n19=>
kUn .not v19 fun v20=>
Qa v20 (
Qc K (.tuple #[.slice none 0 0,.int .i64 1]) g3 n19) (
kLd g3 l3 (0+1) fun v24=>
C Ql [a0,v24] g3 n19 fun v25 g4 n25=>
Zw [.int .i64 0,.int .i64 0,.int .u64 0,.int .u64 0,.int .u64 0,.int .u64 0,.int .u64 0,.int .u64 0,.int .u64 0,.int .u64 0,.int .i64 0] .exact g4 n25 fun l6 g5 n6=>
Jl v25 fun cg6=>
cg6.length=11∧Xw g5 l6 0 cg6 fun g6=>
kLd g6 l3 (0+0) fun v28=>
kLd g6 l6 (0+0) fun v31=>
C Jby [] g6 n6 fun v26 g7 n26=>
(Qe (ptr l3 (0+0)) fun l _=>g7 l=g6 l)∧(Qe (ptr l6 (0+0)) fun l _=>g7 l=g6 l)∧Xdl v26 v28 15 10 (some 10) fun v29=>
Xdl v29 v31 10 1 none fun v32=>
Zn g7 l6 (0+2) 8 fun c34=>
Zw [.int .u64 0,.int .u64 0,.int .u64 0,.int .u64 0,.int .u64 0,.int .u64 0,.int .u64 0,.int .u64 0] .exact g7 n26 fun l8 g8 n8=>
Jl (.agg c34.toArray) fun cg9=>
cg9.length=8∧Xw g8 l8 0 cg9 fun g9=>
Xb .int .eql v32 (.int .i64 (-1)) fun v37=>
Qa v37 (
Qc K (.tuple #[.slice none 0 0,.int .i64 16]) g9 n8) (
Xb .int .eql v32 (.int .i64 (-2)) fun v39=>
Qa v39 (
Qc K (.tuple #[.slice none 0 0,.int .i64 0]) g9 n8) (
Xb .int .eql v32 (.int .i64 0) fun v41=>
Qa v41 (
Qo a0 fun v43=>
Qe v43 fun l44 o44=>
kLd g9 l44 (o44+0) fun v45=>
kLd g9 l3 (0+1) fun v47=>
C Jah [v45,v47] g9 n8 fun v48 g10 n48=>
Zn g10 l3 0 12 fun c49=>
Zn g10 l6 0 11 fun c50=>
C Xaq [.agg c49.toArray,.agg c50.toArray,v32] g10 n48 fun v52 g11 n52=>
Qc K (.tuple #[v52,.int .i64 0]) g11 n52) (
Xb .int .eql v32 (.int .i64 5) fun v54=>
Qa v54 (
ZU C K (puts (Qq [a0,a1]) [(3,ptr l3 0),(4,.slice none 0 0),(5,.int .i64 0),(9,a0),(10,v10),(11,.bool false),(12,.agg c12.toArray),(13,v13),(14,v14),(15,v14),(16,.bool false),(17,(ptr l3 (0+0))),(18,v18),(19,v19),(20,v20),(21,v20),(22,a0),(23,(ptr l3 (0+1))),(24,v24),(25,v25),(6,ptr l6 0),(27,(ptr l3 (0+0))),(28,v28),(30,(ptr l6 (0+0))),(31,v31),(26,v26),(29,v29),(32,v32),(7,v32),(33,(ptr l6 (0+2))),(34,.agg c34.toArray),(8,ptr l8 0),(35,v32),(37,v37),(36,v37),(39,v39),(38,v39),(41,v41),(40,v41),(54,v54),(53,v54)]) g9 n8) (
Xb .int .eql v32 (.int .i64 8) fun v55=>
ZU C K (puts (Qq [a0,a1]) [(3,ptr l3 0),(4,.slice none 0 0),(5,.int .i64 0),(9,a0),(10,v10),(11,.bool false),(12,.agg c12.toArray),(13,v13),(14,v14),(15,v14),(16,.bool false),(17,(ptr l3 (0+0))),(18,v18),(19,v19),(20,v20),(21,v20),(22,a0),(23,(ptr l3 (0+1))),(24,v24),(25,v25),(6,ptr l6 0),(27,(ptr l3 (0+0))),(28,v28),(30,(ptr l6 (0+0))),(31,v31),(26,v26),(29,v29),(32,v32),(7,v32),(33,(ptr l6 (0+2))),(34,.agg c34.toArray),(8,ptr l8 0),(35,v32),(37,v37),(36,v37),(39,v39),(38,v39),(41,v41),(40,v41),(54,v54),(53,v54),(55,v55),(53,v55)]) g9 n8)))))))
theorem ZbD (C:CT) (a0 a1:Value) (g:G) (n:Nat) (K:Cont):Qa8 C a0 a1 g n K=Zg Tryz.prog C Qag [a0,a1] g n K:=by kernel_rfl
def Qao (C:CT) (K:Cont) (t:Env) (g:G) (n:Nat):Prop:=
Qo (t 9) fun v133=>
Qe v133 fun l134 o134=>
Zn g l134 (o134+0) 15 fun c135=>
Qo (t 9) fun v137=>
Qe v137 fun l138 o138=>
kLd g l138 (o138+16) fun v139=>
Qe (t 6) fun lg27 og27=>
Jl (.agg c135.toArray) fun cg27=>
cg27.length=15∧Xw g lg27 og27 cg27 fun g27=>
(Qe (ptr l138 (o138+16)) fun l _=>g27 l=g l)∧Qe (t 6) fun lr0 or0=>
Zn g27 lr0 or0 15 fun r0=>
Qc K (.tuple #[.agg r0.toArray,v139,.int .i64 0]) g27 n
def Qay (C:CT) (K:Cont) (t:Env) (g:G) (n:Nat):Prop:=
Qo (t 9) fun v99=>
Qe v99 fun l100 o100=>
kLd g l100 (o100+0+14) fun v102=>
Xb .int .neq v102 (.int .u8 0) fun v103=>
Qa v103 (
Qo (t 9) fun v105=>
Qe v105 fun l106 o106=>
Zn g l106 (o106+0) 15 fun c107=>
Qe (t 6) fun lg24 og24=>
Jl (.agg c107.toArray) fun cg24=>
cg24.length=15∧Xw g lg24 og24 cg24 fun g24=>
Qe (t 6) fun lr0 or0=>
Zn g24 lr0 or0 15 fun r0=>
Qc K (.tuple #[.agg r0.toArray,.slice none 0 0,.int .i64 0]) g24 n) (
Qo (t 9) fun v109=>
Qe v109 fun l110 o110=>
kLd g l110 (o110+0+13) fun v112=>
Qo (t 9) fun v114=>
Qe v114 fun l115 o115=>
kLd g l115 (o115+0+12) fun v117=>
Xb .int .eql v117 (.int .i64 1) fun v119=>
Qa v119 (
C JV [t 9] g n fun v121 g25 n121=>
C XW [t 9,v112] g25 n121 fun v124 g26 n124=>
Qao C K (puts t [(98,t 9),(99,v99),(100,(ptr l100 (o100+0))),(101,(ptr l100 (o100+0+14))),(102,v102),(103,v103),(108,t 9),(109,v109),(110,(ptr l110 (o110+0))),(111,(ptr l110 (o110+0+13))),(112,v112),(10,v112),(113,t 9),(114,v114),(115,(ptr l115 (o115+0))),(116,(ptr l115 (o115+0+12))),(117,v117),(119,v119),(118,v119),(120,t 9),(121,v121),(122,t 9),(123,v112),(124,v124)]) g26 n124) (
Xb .int .eql v117 (.int .i64 2) fun v126=>
Qa v126 (
C JV [t 9] g n fun v128 g28 n128=>
C JO [t 9,v112,.int .i64 10] g28 n128 fun v131 g29 n131=>
Qao C K (puts t [(98,t 9),(99,v99),(100,(ptr l100 (o100+0))),(101,(ptr l100 (o100+0+14))),(102,v102),(103,v103),(108,t 9),(109,v109),(110,(ptr l110 (o110+0))),(111,(ptr l110 (o110+0+13))),(112,v112),(10,v112),(113,t 9),(114,v114),(115,(ptr l115 (o115+0))),(116,(ptr l115 (o115+0+12))),(117,v117),(119,v119),(118,v119),(126,v126),(125,v126),(127,t 9),(128,v128),(129,t 9),(130,v112),(131,v131)]) g29 n131) (
Qao C K (puts t [(98,t 9),(99,v99),(100,(ptr l100 (o100+0))),(101,(ptr l100 (o100+0+14))),(102,v102),(103,v103),(108,t 9),(109,v109),(110,(ptr l110 (o110+0))),(111,(ptr l110 (o110+0+13))),(112,v112),(10,v112),(113,t 9),(114,v114),(115,(ptr l115 (o115+0))),(116,(ptr l115 (o115+0+12))),(117,v117),(119,v119),(118,v119),(126,v126),(125,v126)]) g n)))
def Xay (C:CT) (K:Cont) (t:Env) (g:G) (n:Nat):Prop:=
Qo (t 9) fun v75=>
Qe v75 fun l76 o76=>
kLd g l76 (o76+0+11) fun v78=>
C Jp [t 1] g n fun v80 g20 n80=>
(Qe (ptr l76 (o76+0+11)) fun l _=>g20 l=g l)∧Xb .int .andNot v78 v80 fun v81=>
Qo (t 9) fun v82=>
Qe v82 fun l83 o83=>
kSt g20 l83 (o83+0+11) v81 fun g21=>
Qe (t 5) fun l85 o85=>
kLd g21 l85 (o85+3) fun v86=>
Qa v86 (
Qo (t 9) fun v88=>
Qe v88 fun l89 o89=>
kLd g21 l89 (o89+0+11) fun v91=>
C Jp [t 1] g21 n80 fun v93 g22 n93=>
(Qe (ptr l89 (o89+0+11)) fun l _=>g22 l=g21 l)∧Xb .int .or v91 v93 fun v94=>
Qo (t 9) fun v95=>
Qe v95 fun l96 o96=>
kSt g22 l96 (o96+0+11) v94 fun g23=>
Qay C K (puts t [(74,t 9),(75,v75),(76,(ptr l76 (o76+0))),(77,(ptr l76 (o76+0+11))),(78,v78),(79,t 1),(80,v80),(81,v81),(82,v82),(83,(ptr l83 (o83+0))),(84,(ptr l83 (o83+0+11))),(85,(ptr l85 (o85+3))),(86,v86),(87,t 9),(88,v88),(89,(ptr l89 (o89+0))),(90,(ptr l89 (o89+0+11))),(91,v91),(92,t 1),(93,v93),(94,v94),(95,v95),(96,(ptr l96 (o96+0))),(97,(ptr l96 (o96+0+11)))]) g23 n93) (
Qay C K (puts t [(74,t 9),(75,v75),(76,(ptr l76 (o76+0))),(77,(ptr l76 (o76+0+11))),(78,v78),(79,t 1),(80,v80),(81,v81),(82,v82),(83,(ptr l83 (o83+0))),(84,(ptr l83 (o83+0+11))),(85,(ptr l85 (o85+3))),(86,v86)]) g21 n80)
def Xc0 (C:CT) (a0 a1 a2:Value) (g:G) (n:Nat) (K:Cont):Prop:=
Jl a0 fun c3=>
Zw c3 .exact g n fun l3 g1 n3=>
Jl a2 fun c5=>
Zw c5 .exact g1 n3 fun l5 g2 n5=>
Zw [.bool false,.bool false,.int .u64 0,.int .u64 0,.int .u64 0,.int .u64 0,.int .u64 0,.int .u64 0,.int .u64 0,.int .u64 0,.int .i64 0,.int .u8 0,.int .i64 0,.int .i64 0,.int .u8 0] .exact g2 n5 fun l6 g3 n6=>
Zn g3 l3 0 15 fun c12=>
C JaB [.agg c12.toArray] g3 n6 fun v13 g4 n13=>
kUn .not v13 fun v14=>
Qa v14 (
Xk [.bool false,.bool false,.int .u64 0,.int .u64 0,.int .u64 0,.int .u64 0,.int .u64 0,.int .u64 0,.int .u64 0,.int .u64 0,.int .i64 0,.int .u8 0,.int .i64 0,.int .i64 0,.int .u8 0] [] fun c31=>
Jl (.agg c31.toArray) fun cg5=>
cg5.length=15∧Xw g4 l6 0 cg5 fun g5=>
Zn g5 l6 0 15 fun r0=>
Qc K (.tuple #[.agg r0.toArray,.slice none 0 0,.int .i64 1]) g5 n13) (
C Zat [a1] g4 n13 fun v17 g6 n17=>
kUn .not v17 fun v18=>
Qa v18 (
Xk [.bool false,.bool false,.int .u64 0,.int .u64 0,.int .u64 0,.int .u64 0,.int .u64 0,.int .u64 0,.int .u64 0,.int .u64 0,.int .i64 0,.int .u8 0,.int .i64 0,.int .i64 0,.int .u8 0] [] fun c31=>
Jl (.agg c31.toArray) fun cg7=>
cg7.length=15∧Xw g6 l6 0 cg7 fun g7=>
Zn g7 l6 0 15 fun r0=>
Qc K (.tuple #[.agg r0.toArray,.slice none 0 0,.int .i64 1]) g7 n17) (
Zn g6 l5 0 12 fun c21=>
C Jas [.agg c21.toArray] g6 n17 fun v22 g8 n22=>
kUn .not v22 fun v23=>
Qa v23 (
Xk [.bool false,.bool false,.int .u64 0,.int .u64 0,.int .u64 0,.int .u64 0,.int .u64 0,.int .u64 0,.int .u64 0,.int .u64 0,.int .i64 0,.int .u8 0,.int .i64 0,.int .i64 0,.int .u8 0] [] fun c31=>
Jl (.agg c31.toArray) fun cg9=>
cg9.length=15∧Xw g8 l6 0 cg9 fun g9=>
Zn g9 l6 0 15 fun r0=>
Qc K (.tuple #[.agg r0.toArray,.slice none 0 0,.int .i64 1]) g9 n22) (
kLd g8 l5 (0+0) fun v27=>
C JaN [v27] g8 n22 fun v28 g10 n28=>
kUn .not v28 fun v29=>
Qa v29 (
Xk [.bool false,.bool false,.int .u64 0,.int .u64 0,.int .u64 0,.int .u64 0,.int .u64 0,.int .u64 0,.int .u64 0,.int .u64 0,.int .i64 0,.int .u8 0,.int .i64 0,.int .i64 0,.int .u8 0] [] fun c31=>
Jl (.agg c31.toArray) fun cg11=>
cg11.length=15∧Xw g10 l6 0 cg11 fun g11=>
Zn g11 l6 0 15 fun r0=>
Qc K (.tuple #[.agg r0.toArray,.slice none 0 0,.int .i64 1]) g11 n28) (
kLd g10 l3 (0+12) fun v34=>
Xb .int .eql v34 (.int .i64 0) fun v35=>
Qa v35 (
Xk [.bool false,.bool false,.int .u64 0,.int .u64 0,.int .u64 0,.int .u64 0,.int .u64 0,.int .u64 0,.int .u64 0,.int .u64 0,.int .i64 0,.int .u8 0,.int .i64 0,.int .i64 0,.int .u8 0] [] fun c43=>
Jl (.agg c43.toArray) fun cg12=>
cg12.length=15∧Xw g10 l6 0 cg12 fun g12=>
Zn g12 l6 0 15 fun r0=>
Qc K (.tuple #[.agg r0.toArray,.slice none 0 0,.int .i64 16]) g12 n28) (
kLd g10 l3 (0+14) fun v38=>
C Za1 [v38,a1] g10 n28 fun v40 g13 n40=>
kUn .not v40 fun v41=>
Qa v41 (
Xk [.bool false,.bool false,.int .u64 0,.int .u64 0,.int .u64 0,.int .u64 0,.int .u64 0,.int .u64 0,.int .u64 0,.int .u64 0,.int .i64 0,.int .u8 0,.int .i64 0,.int .i64 0,.int .u8 0] [] fun c43=>
Jl (.agg c43.toArray) fun cg14=>
cg14.length=15∧Xw g13 l6 0 cg14 fun g14=>
Zn g14 l6 0 15 fun r0=>
Qc K (.tuple #[.agg r0.toArray,.slice none 0 0,.int .i64 16]) g14 n40) (
Zn g13 l3 0 15 fun c44=>
kLd g13 l5 (0+1) fun v46=>
Xk [.bool false,.bool false,.int .u64 0,.int .u64 0,.int .u64 0,.int .u64 0,.int .u64 0,.int .u64 0,.int .u64 0,.int .u64 0,.int .i64 0,.int .u8 0,.int .i64 0,.int .i64 0,.int .u8 0,.int .i64 0,.slice none 0 0] [(0,some 15,.agg c44.toArray),(15,none,v46)] fun c47=>
Jl (.agg c47.toArray) fun c48=>
Zw c48 .exact g13 n40 fun l48 g15 n48=>
kLd g15 l48 (0+0+14) fun v53=>
C Jp [a1] g15 n48 fun v55 g16 n55=>
(Qe (ptr l48 (0+0+14)) fun l _=>g16 l=g15 l)∧Xb .int .andNot v53 v55 fun v56=>
kSt g16 l48 (0+0+14) v56 fun g17=>
Zn g17 l5 0 12 fun c61=>
C Jae [ptr l48 0,.agg c61.toArray] g17 n55 fun v62 g18 n62=>
kLd g18 l48 (0+0+10) fun v67=>
Xb .int .eql v67 a1 fun v69=>
Qa v69 (
kSt g18 l48 (0+0+10) (.int .i64 (-1)) fun g19=>
Xay C K (puts (Qq [a0,a1,a2]) [(3,ptr l3 0),(5,ptr l5 0),(6,ptr l6 0),(7,.slice none 0 0),(8,.int .i64 0),(12,.agg c12.toArray),(13,v13),(14,v14),(15,.bool false),(16,a1),(17,v17),(18,v18),(19,v18),(20,.bool false),(21,.agg c21.toArray),(22,v22),(23,v23),(24,v23),(25,.bool false),(26,(ptr l5 (0+0))),(27,v27),(28,v28),(29,v29),(30,v29),(11,v29),(33,(ptr l3 (0+12))),(34,v34),(35,v35),(36,.bool false),(37,(ptr l3 (0+14))),(38,v38),(39,a1),(40,v40),(41,v41),(42,v41),(32,v41),(44,.agg c44.toArray),(45,(ptr l5 (0+1))),(46,v46),(47,.agg c47.toArray),(48,ptr l48 0),(9,ptr l48 0),(49,ptr l48 0),(50,ptr l48 0),(51,(ptr l48 (0+0))),(52,(ptr l48 (0+0+14))),(53,v53),(54,a1),(55,v55),(56,v56),(57,ptr l48 0),(58,(ptr l48 (0+0))),(59,(ptr l48 (0+0+14))),(60,ptr l48 0),(61,.agg c61.toArray),(62,v62),(63,ptr l48 0),(64,ptr l48 0),(65,(ptr l48 (0+0))),(66,(ptr l48 (0+0+10))),(67,v67),(68,a1),(69,v69),(70,ptr l48 0),(71,ptr l48 0),(72,(ptr l48 (0+0))),(73,(ptr l48 (0+0+10)))]) g19 n62) (
Xay C K (puts (Qq [a0,a1,a2]) [(3,ptr l3 0),(5,ptr l5 0),(6,ptr l6 0),(7,.slice none 0 0),(8,.int .i64 0),(12,.agg c12.toArray),(13,v13),(14,v14),(15,.bool false),(16,a1),(17,v17),(18,v18),(19,v18),(20,.bool false),(21,.agg c21.toArray),(22,v22),(23,v23),(24,v23),(25,.bool false),(26,(ptr l5 (0+0))),(27,v27),(28,v28),(29,v29),(30,v29),(11,v29),(33,(ptr l3 (0+12))),(34,v34),(35,v35),(36,.bool false),(37,(ptr l3 (0+14))),(38,v38),(39,a1),(40,v40),(41,v41),(42,v41),(32,v41),(44,.agg c44.toArray),(45,(ptr l5 (0+1))),(46,v46),(47,.agg c47.toArray),(48,ptr l48 0),(9,ptr l48 0),(49,ptr l48 0),(50,ptr l48 0),(51,(ptr l48 (0+0))),(52,(ptr l48 (0+0+14))),(53,v53),(54,a1),(55,v55),(56,v56),(57,ptr l48 0),(58,(ptr l48 (0+0))),(59,(ptr l48 (0+0+14))),(60,ptr l48 0),(61,.agg c61.toArray),(62,v62),(63,ptr l48 0),(64,ptr l48 0),(65,(ptr l48 (0+0))),(66,(ptr l48 (0+0+10))),(67,v67),(68,a1),(69,v69)]) g18 n62)))))))
theorem Jdk (C:CT) (a0 a1 a2:Value) (g:G) (n:Nat) (K:Cont):Xc0 C a0 a1 a2 g n K=Zg Tryz.prog C Jaz [a0,a1,a2] g n K:=by kernel_rfl
def Zcd (C:CT) (a0 a1 a2:Value) (g:G) (n:Nat) (K:Cont):Prop:=
Xb .int .geq a0 a1 fun v9=>
Qa v9 (
Xb .int .leq a0 a2 fun v13=>
Qc K v13 g n) (
Qc K (.bool false) g n)
theorem ZcB (C:CT) (a0 a1 a2:Value) (g:G) (n:Nat) (K:Cont):Zcd C a0 a1 a2 g n K=Zg Tryz.prog C Xe [a0,a1,a2] g n K:=by kernel_rfl
def Qdr (C:CT) (a0 a1:Value) (g:G) (n:Nat) (K:Cont):Prop:=
C Xbl [a0,a1] g n fun v11 g1 n11=>
Xd v11 0 fun v12=>
Xd v11 1 fun v13=>
Xb .int .neq v13 (.int .i64 0) fun v15=>
Qa v15 (
Qc K (.tuple #[.pointer none,v13]) g1 n11) (
Xk [.pointer none] [(0,none,v12)] fun c18=>
Jl (.agg c18.toArray) fun c19=>
Zw c19 .exact g1 n11 fun l19 g2 n19=>
Qc K (.tuple #[ptr l19 0,.int .i64 0]) g2 n19)
theorem Xdz (C:CT) (a0 a1:Value) (g:G) (n:Nat) (K:Cont):Qdr C a0 a1 g n K=Zg Tryz.prog C Jbg [a0,a1] g n K:=by kernel_rfl
def Zav (C:CT) (a0 a1:Value) (g:G) (n:Nat) (K:Cont):Prop:=
Qo a0 fun v6=>
Qe v6 fun l7 o7=>
C Qa4 [(ptr l7 (o7+0)),a1] g n fun v9 g1 n9=>
Qc K v9 g1 n9
theorem ZaS (C:CT) (a0 a1:Value) (g:G) (n:Nat) (K:Cont):Zav C a0 a1 g n K=Zg Tryz.prog C Jv [a0,a1] g n K:=by kernel_rfl
def Zed (C:CT) (a0 a1:Value) (g:G) (n:Nat) (K:Cont):Prop:=
Xb .int .geq a0 (.int .i64 0) fun v6=>
Qa v6 (
Xb .int .lss a0 (.int .i64 64) fun v9=>
Qa v9 (
Xb .int .geq a1 (.int .i64 0) fun v13=>
Qa v13 (
Xb .int .lss a1 (.int .i64 8) fun v17=>
Qc K v17 g n) (
Qc K (.bool false) g n)) (
Qc K (.bool false) g n)) (
Qc K (.bool false) g n)
theorem XdY (C:CT) (a0 a1:Value) (g:G) (n:Nat) (K:Cont):Zed C a0 a1 g n K=Zg Tryz.prog C JaE [a0,a1] g n K:=by kernel_rfl
def Za8 (C:CT) (a0 a1:Value) (g:G) (n:Nat) (K:Cont):Prop:=
Zw [.int .i64 0,.int .i64 0,.int .u64 0,.int .u64 0,.int .u64 0,.int .u64 0,.int .u64 0,.int .u64 0,.int .u64 0,.int .u64 0,.int .i64 0] .exact g n fun l4 g1 n4=>
Qo a0 fun v9=>
Qe v9 fun l10 o10=>
kLd g1 l10 (o10+0) fun v11=>
C Xai [v11,a1] g1 n4 fun v13 g2 n13=>
Xd v13 0 fun v14=>
Xd v13 1 fun v15=>
Zw [.int .i64 0,.int .i64 0,.int .u64 0,.int .u64 0,.int .u64 0,.int .u64 0,.int .u64 0,.int .u64 0,.int .u64 0,.int .u64 0,.int .i64 0] .exact g2 n13 fun l5 g3 n5=>
Jl v14 fun cg4=>
cg4.length=11∧Xw g3 l5 0 cg4 fun g4=>
Zn g4 l5 0 11 fun c16=>
Jl (.agg c16.toArray) fun cg5=>
cg5.length=11∧Xw g4 l4 0 cg5 fun g5=>
Zn g5 l4 0 11 fun r0=>
Qc K (.agg r0.toArray) g5 n5
theorem QbC (C:CT) (a0 a1:Value) (g:G) (n:Nat) (K:Cont):Za8 C a0 a1 g n K=Zg Tryz.prog C Ql [a0,a1] g n K:=by kernel_rfl
def JaO (C:CT) (a0 a1:Value) (g:G) (n:Nat) (K:Cont):Prop:=
C XH [a0,a1] g n fun v7 g1 n7=>
Xb .int .geq v7 (.int .i64 0) fun v9=>
Qa v9 (
C Jt [a0,a1] g1 n7 fun v12 g2 n12=>
C ZM [a0] g2 n12 fun v15 g3 n15=>
Jc v12 v7 11 fun v16=>
Qe v16 fun l17 o17=>
kSt g3 l17 (o17+10) v15 fun g4=>
Qc K (.tuple #[]) g4 n15) (
Qc K (.tuple #[]) g1 n7)
theorem Qbu (C:CT) (a0 a1:Value) (g:G) (n:Nat) (K:Cont):JaO C a0 a1 g n K=Zg Tryz.prog C Xad [a0,a1] g n K:=by kernel_rfl
def QN (C:CT) (K:Cont) (t:Env) (g:G) (n:Nat):Prop:=
Qo (t 0) fun v43=>
Qe v43 fun l44 o44=>
kLd g l44 (o44+0) fun v45=>
Qe (t 9) fun l48 o48=>
Zn g l48 o48 8 fun c48=>
C ZE [v45,t 1,t 2,.agg c48.toArray] g n fun v49 g6 n49=>
Xk [.int .i64 0,.int .i64 0,.bool false,.bool false,.int .u64 0,.int .u64 0,.int .u64 0,.int .u64 0,.int .u64 0,.int .u64 0,.int .u64 0,.int .u64 0] [(0,none,t 3),(1,none,t 1)] fun c52=>
Xk (reps 1 [.int .i64 0,.int .i64 0,.bool false,.bool false,.int .u64 0,.int .u64 0,.int .u64 0,.int .u64 0,.int .u64 0,.int .u64 0,.int .u64 0,.int .u64 0]) [(0,some 12,.agg c52.toArray)] fun c53=>
Zw c53 .exact g6 n49 fun l53 g7 n53=>
Qc K (.slice (some ⟨l53,0,none⟩) 1 1) g7 n53
def Xbj (C:CT) (a0 a1 a2 a3 a4:Value) (g:G) (n:Nat) (K:Cont):Prop:=
Jl a4 fun c9=>
Zw c9 .exact g n fun l9 g1 n9=>
C ZV [a0] g1 n9 fun v14 g2 n14=>
kUn .not v14 fun v15=>
Qa v15 (
Qc K (.slice none 0 0) g2 n14) (
Xb .int .neq a2 (.int .i64 6) fun v17=>
Qa v17 (
Qo a0 fun v20=>
Qe v20 fun l21 o21=>
kLd g2 l21 (o21+0) fun v22=>
C Jag [v22,a1] g2 n14 fun v24 g3 n24=>
Xd v24 0 fun v25=>
Xd v24 1 fun v26=>
kUn .not v25 fun v29=>
Qa v29 (
Xb .int .lss v26 (.int .i64 0) fun v32=>
Qa v32 (
Qc K (.slice none 0 0) g3 n24) (
kUn .not v25 fun v36=>
Qa v36 (
C Ql [a0,v26] g3 n24 fun v40 g4 n40=>
C JN [a0,v40] g4 n40 fun v41 g5 n41=>
Qc K v41 g5 n41) (
QN C K (puts (Qq [a0,a1,a2,a3,a4]) [(9,ptr l9 0),(10,.slice none 0 0),(13,a0),(14,v14),(15,v15),(16,a2),(17,v17),(19,a0),(20,v20),(21,(ptr l21 (o21+0))),(22,v22),(23,a1),(24,v24),(18,v24),(25,v25),(26,v26),(11,v25),(12,v26),(28,v25),(29,v29),(30,.bool true),(31,v26),(32,v32),(33,v32),(27,v32),(35,v25),(36,v36),(34,v36)]) g3 n24))) (
kUn .not v25 fun v36=>
Qa v36 (
C Ql [a0,v26] g3 n24 fun v40 g8 n40=>
C JN [a0,v40] g8 n40 fun v41 g9 n41=>
Qc K v41 g9 n41) (
QN C K (puts (Qq [a0,a1,a2,a3,a4]) [(9,ptr l9 0),(10,.slice none 0 0),(13,a0),(14,v14),(15,v15),(16,a2),(17,v17),(19,a0),(20,v20),(21,(ptr l21 (o21+0))),(22,v22),(23,a1),(24,v24),(18,v24),(25,v25),(26,v26),(11,v25),(12,v26),(28,v25),(29,v29),(30,.bool false),(31,undef),(32,undef),(33,.bool false),(27,.bool false),(35,v25),(36,v36),(34,v36)]) g3 n24))) (
QN C K (puts (Qq [a0,a1,a2,a3,a4]) [(9,ptr l9 0),(10,.slice none 0 0),(13,a0),(14,v14),(15,v15),(16,a2),(17,v17)]) g2 n14))
theorem ZbT (C:CT) (a0 a1 a2 a3 a4:Value) (g:G) (n:Nat) (K:Cont):Xbj C a0 a1 a2 a3 a4 g n K=Zg Tryz.prog C QM [a0,a1,a2,a3,a4] g n K:=by kernel_rfl
def Jdv (C:CT) (a0:Value) (g:G) (n:Nat) (K:Cont):Prop:=
Jl a0 fun c1=>
Zw c1 .exact g n fun l1 g1 n1=>
Zn g1 l1 0 15 fun c3=>
C JaB [.agg c3.toArray] g1 n1 fun v4 g2 n4=>
Qa v4 (
kLd g2 l1 (0+12) fun v7=>
Xb .int .eql v7 (.int .i64 4) fun v8=>
Qa v8 (
kLd g2 l1 (0+14) fun v17=>
Xb .int .eql v17 (.int .u8 0) fun v18=>
Qc K v18 g2 n4) (
kLd g2 l1 (0+12) fun v11=>
Xb .int .eql v11 (.int .i64 5) fun v12=>
Qa v12 (
kLd g2 l1 (0+14) fun v17=>
Xb .int .eql v17 (.int .u8 0) fun v18=>
Qc K v18 g2 n4) (
Qc K (.bool false) g2 n4))) (
Qc K (.bool false) g2 n4)
theorem Xdy (C:CT) (a0:Value) (g:G) (n:Nat) (K:Cont):Jdv C a0 g n K=Zg Tryz.prog C JaJ [a0] g n K:=by kernel_rfl
def XcV (C:CT) (a0:Value) (g:G) (n:Nat) (K:Cont):Prop:=
Jl a0 fun c1=>
Zw c1 .exact g n fun l1 g1 n1=>
Zw [.bool false,.bool false,.int .u64 0,.int .u64 0,.int .u64 0,.int .u64 0,.int .u64 0,.int .u64 0,.int .u64 0,.int .u64 0,.int .i64 0,.int .u8 0,.int .i64 0,.int .i64 0,.int .u8 0] .exact g1 n1 fun l2 g2 n2=>
Zn g2 l1 0 15 fun c7=>
C JaJ [.agg c7.toArray] g2 n2 fun v8 g3 n8=>
kUn .not v8 fun v9=>
Qa v9 (
Xk [.bool false,.bool false,.int .u64 0,.int .u64 0,.int .u64 0,.int .u64 0,.int .u64 0,.int .u64 0,.int .u64 0,.int .u64 0,.int .i64 0,.int .u8 0,.int .i64 0,.int .i64 0,.int .u8 0] [] fun c10=>
Jl (.agg c10.toArray) fun cg4=>
cg4.length=15∧Xw g3 l2 0 cg4 fun g4=>
Zn g4 l2 0 15 fun r0=>
Qc K (.tuple #[.agg r0.toArray,.slice none 0 0,.int .i64 16]) g4 n8) (
Zn g3 l1 0 15 fun c11=>
Xk [.bool false,.bool false,.int .u64 0,.int .u64 0,.int .u64 0,.int .u64 0,.int .u64 0,.int .u64 0,.int .u64 0,.int .u64 0,.int .i64 0,.int .u8 0,.int .i64 0,.int .i64 0,.int .u8 0,.int .i64 0,.slice none 0 0] [(0,some 15,.agg c11.toArray)] fun c12=>
Jl (.agg c12.toArray) fun c13=>
Zw c13 .exact g3 n8 fun l13 g5 n13=>
kSt g5 l13 (0+0+1) (.bool false) fun g6=>
kLd g6 l1 (0+13) fun v19=>
C JV [ptr l13 0] g6 n13 fun v21 g7 n21=>
C QF [ptr l13 0,v19,.int .i64 14] g7 n21 fun v24 g8 n24=>
Zn g8 l13 (0+0) 15 fun c28=>
kLd g8 l13 (0+16) fun v32=>
Jl (.agg c28.toArray) fun cg9=>
cg9.length=15∧Xw g8 l2 0 cg9 fun g9=>
(Qe (ptr l13 (0+16)) fun l _=>g9 l=g8 l)∧Zn g9 l2 0 15 fun r0=>
Qc K (.tuple #[.agg r0.toArray,v32,.int .i64 0]) g9 n24)
theorem Zdh (C:CT) (a0:Value) (g:G) (n:Nat) (K:Cont):XcV C a0 g n K=Zg Tryz.prog C Ja0 [a0] g n K:=by kernel_rfl
def Qy (C:CT) (K:Cont) (t:Env) (g:G) (n:Nat):Prop:=
Qo (t 0) fun v46=>
Qe v46 fun l47 o47=>
kLd g l47 (o47+2) fun v48=>
Xb .int .add (t 5) (t 6) fun v51=>
Xu v48 (some v51) none none 9 fun v52=>
Jav v52 [.int .i64 0,.int .u64 0,.int .u64 0,.int .u64 0,.int .u64 0,.int .u64 0,.int .u64 0,.int .u64 0,.int .u64 0] g fun v_ g5=>
Qo (t 0) fun v55=>
Qe v55 fun l56 o56=>
kLd g5 l56 (o56+2) fun v57=>
Xb .int .add (t 5) (t 6) fun v60=>
Xu v57 none (some v60) none 9 fun v61=>
Qo (t 0) fun v62=>
Qe v62 fun l63 o63=>
kSt g5 l63 (o63+2) v61 fun g6=>
Qc K (.int .i64 0) g6 n
def XG (C:CT) (K:Cont) (J:Qn) (t:Env) (g:G) (n:Nat):Prop:=
Qo (t 0) fun v32=>
Qe v32 fun l33 o33=>
kLd g l33 (o33+2) fun v34=>
Xu v34 (some (t 5)) none none 9 fun v36=>
Qo (t 0) fun v38=>
Qe v38 fun l39 o39=>
kLd g l39 (o39+2) fun v40=>
Xb .int .add (t 5) (.int .i64 1) fun v42=>
Xu v40 (some v42) none none 9 fun v43=>
Zbk v36 v43 9 g fun v44 g4=>
J (puts t [(31,t 0),(32,v32),(33,(ptr l33 (o33+2))),(34,v34),(35,t 5),(36,v36),(37,t 0),(38,v38),(39,(ptr l39 (o39+2))),(40,v40),(41,t 5),(42,v42),(43,v43),(44,v44),(6,v44)]) g4 n
def Qas (C:CT) (a0 a1:Value) (J:Qn) (g:G) (n:Nat) (K:Cont):Prop:=
isCell a1=true∧Zw [a1] .exact g n fun l3 g1 n3=>
Xb .ptr .eql a0 (.pointer none) fun v8=>
Qa v8 (
Qc K (.int .i64 1) g1 n3) (
Qo a0 fun v10=>
Qe v10 fun l11 o11=>
kLd g1 l11 (o11+2) fun v12=>
C Zr [v12,(.func (.func Qt) #[] #[ptr l3 0])] g1 n3 fun v14 g2 n14=>
Xb .int .lss v14 (.int .i64 0) fun v16=>
Qa v16 (
Qc K (.int .i64 14) g2 n14) (
Qo a0 fun v18=>
Qe v18 fun l19 o19=>
kLd g2 l19 (o19+0) fun v20=>
kLd g2 l3 0 fun v21=>
Qo a0 fun v23=>
Qe v23 fun l24 o24=>
kLd g2 l24 (o24+2) fun v25=>
Jc v25 v14 9 fun v27=>
Qe v27 fun l28 o28=>
Zn g2 l28 (o28+1) 8 fun c29=>
C Qaj [v20,v21,.agg c29.toArray] g2 n14 fun v30 g3 n30=>
J (puts (Qq [a0,a1]) [(3,ptr l3 0),(4,.int .i64 0),(7,a0),(8,v8),(9,a0),(10,v10),(11,(ptr l11 (o11+2))),(12,v12),(13,(.func (.func Qt) #[] #[ptr l3 0])),(14,v14),(5,v14),(15,v14),(16,v16),(17,a0),(18,v18),(19,(ptr l19 (o19+0))),(20,v20),(21,v21),(22,a0),(23,v23),(24,(ptr l24 (o24+2))),(25,v25),(26,v14),(27,v27),(28,(ptr l28 (o28+1))),(29,.agg c29.toArray),(30,v30)]) g3 n30))
def XaB (C:CT) (a0 a1:Value) (g:G) (n:Nat) (K:Cont):Prop:=Qas C a0 a1 (XG C K (Qy C K)) g n K
theorem JaT (C:CT) (t:Env) (g:G) (n:Nat) (K:Cont):Qy C K t g n=XaG Tryz.prog C [1,1,1,1,1,1] Xm K t g n:=by kernel_rfl
theorem XaY (C:CT) (K:Cont):Qy C K=XaG Tryz.prog C [1,1,1,1,1,1] Xm K:=funext fun t=>funext fun g=>funext fun n=>JaT C t g n K
theorem ZaX (C:CT) (J:Qn) (t:Env) (g:G) (n:Nat) (K:Cont):XG C K J t g n=Qbp Tryz.prog C [1,1,1,1,1] [1] J Xm K t g n:=by kernel_rfl
theorem Ja3 (C:CT) (K:Cont):XG C K (Qy C K)=XaG Tryz.prog C [1,1,1,1,1] Xm K:=by
 rw [XaY]
 exact (funext fun t=>funext fun g=>funext fun n=>ZaX C _ t g n K).trans (XbL Tryz.prog C [1,1,1,1,1] [1] Xm K)
theorem Za4 (C:CT) (a0 a1:Value) (J:Qn) (g:G) (n:Nat) (K:Cont):Qas C a0 a1 J g n K=Qcm Tryz.prog C [1,1,1,1,1] J Xm [a0,a1] g n K:=by kernel_rfl
theorem QbY (C:CT) (a0 a1:Value) (g:G) (n:Nat) (K:Cont):XaB C a0 a1 g n K=Zg Tryz.prog C Xm [a0,a1] g n K:=by
 unfold XaB
 rw [Za4,Ja3]
 exact Jcv Tryz.prog C [1,1,1,1,1] Xm [a0,a1] g n K
def Qah (C:CT) (K:Cont) (t:Env) (g:G) (n:Nat):Prop:=
Qe (t 1) fun l41 o41=>
kLd g l41 (o41+2) fun v42=>
Qa v42 (
Qc K (.bool true) g n) (
Xb .int .and (t 3) (.int .i64 4) fun v45=>
Xb .int .neq v45 (.int .i64 0) fun v46=>
Qa v46 (
Qc K (.bool true) g n) (
Qe (t 1) fun l49 o49=>
Zn g l49 (o49+4) 8 fun c50=>
Xk [.int .u64 0,.int .u64 0,.int .u64 0,.int .u64 0,.int .u64 0,.int .u64 0,.int .u64 0,.int .u64 0] [] fun c51=>
Xb (.agg [.i,.i,.i,.i,.i,.i,.i,.i]) .eql (.agg c50.toArray) (.agg c51.toArray) fun v52=>
Qc K v52 g n))
def Xd5 (C:CT) (a0:Value) (g:G) (n:Nat) (K:Cont):Prop:=
Jl a0 fun c1=>
Zw c1 .exact g n fun l1 g1 n1=>
kLd g1 l1 (0+0) fun v5=>
Xb .int .lss v5 (.int .i64 1) fun v6=>
Qa v6 (
Qc K (.bool false) g1 n1) (
kLd g1 l1 (0+0) fun v9=>
Xb .int .gtr v9 (.int .i64 14) fun v10=>
Qa v10 (
Qc K (.bool false) g1 n1) (
kLd g1 l1 (0+1) fun v14=>
Xb .int .lss v14 (.int .i64 0) fun v15=>
Qa v15 (
Qc K (.bool false) g1 n1) (
kLd g1 l1 (0+1) fun v19=>
Xb .int .geq v19 (.int .i64 64) fun v20=>
Qa v20 (
Qc K (.bool false) g1 n1) (
kLd g1 l1 (0+0) fun v24=>
C ZcU [] g1 n1 fun v22 g2 n22=>
(Qe (ptr l1 (0+0)) fun l _=>g2 l=g1 l)∧Xdl v22 v24 15 1 none fun v25=>
kLd g2 l1 (0+2) fun v28=>
Qa v28 (
Xb .int .and v25 (.int .i64 1) fun v31=>
Xb .int .eql v31 (.int .i64 0) fun v32=>
Qa v32 (
Qa v32 (
Qc K (.bool false) g2 n22) (
Qah C K (puts (Qq [a0]) [(1,ptr l1 0),(2,.bool false),(4,(ptr l1 (0+0))),(5,v5),(6,v6),(7,.bool false),(8,(ptr l1 (0+0))),(9,v9),(10,v10),(11,v10),(12,.bool false),(13,(ptr l1 (0+1))),(14,v14),(15,v15),(16,v15),(17,.bool false),(18,(ptr l1 (0+1))),(19,v19),(20,v20),(21,v20),(23,(ptr l1 (0+0))),(24,v24),(22,v22),(25,v25),(3,v25),(27,(ptr l1 (0+2))),(28,v28),(29,.bool true),(30,v25),(31,v31),(32,v32),(33,v32),(26,v32)]) g2 n22)) (
kLd g2 l1 (0+3) fun v35=>
Qa v35 (
Xb .int .and v25 (.int .i64 2) fun v38=>
Xb .int .eql v38 (.int .i64 0) fun v39=>
Qa v39 (
Qc K (.bool false) g2 n22) (
Qah C K (puts (Qq [a0]) [(1,ptr l1 0),(2,.bool false),(4,(ptr l1 (0+0))),(5,v5),(6,v6),(7,.bool false),(8,(ptr l1 (0+0))),(9,v9),(10,v10),(11,v10),(12,.bool false),(13,(ptr l1 (0+1))),(14,v14),(15,v15),(16,v15),(17,.bool false),(18,(ptr l1 (0+1))),(19,v19),(20,v20),(21,v20),(23,(ptr l1 (0+0))),(24,v24),(22,v22),(25,v25),(3,v25),(27,(ptr l1 (0+2))),(28,v28),(29,.bool true),(30,v25),(31,v31),(32,v32),(33,v32),(26,v32),(34,(ptr l1 (0+3))),(35,v35),(36,.bool true),(37,v25),(38,v38),(39,v39),(40,v39),(26,v39)]) g2 n22)) (
Qah C K (puts (Qq [a0]) [(1,ptr l1 0),(2,.bool false),(4,(ptr l1 (0+0))),(5,v5),(6,v6),(7,.bool false),(8,(ptr l1 (0+0))),(9,v9),(10,v10),(11,v10),(12,.bool false),(13,(ptr l1 (0+1))),(14,v14),(15,v15),(16,v15),(17,.bool false),(18,(ptr l1 (0+1))),(19,v19),(20,v20),(21,v20),(23,(ptr l1 (0+0))),(24,v24),(22,v22),(25,v25),(3,v25),(27,(ptr l1 (0+2))),(28,v28),(29,.bool true),(30,v25),(31,v31),(32,v32),(33,v32),(26,v32),(34,(ptr l1 (0+3))),(35,v35),(36,.bool false),(37,undef),(38,undef),(39,undef),(40,.bool false),(26,.bool false)]) g2 n22))) (
kLd g2 l1 (0+3) fun v35=>
Qa v35 (
Xb .int .and v25 (.int .i64 2) fun v38=>
Xb .int .eql v38 (.int .i64 0) fun v39=>
Qa v39 (
Qc K (.bool false) g2 n22) (
Qah C K (puts (Qq [a0]) [(1,ptr l1 0),(2,.bool false),(4,(ptr l1 (0+0))),(5,v5),(6,v6),(7,.bool false),(8,(ptr l1 (0+0))),(9,v9),(10,v10),(11,v10),(12,.bool false),(13,(ptr l1 (0+1))),(14,v14),(15,v15),(16,v15),(17,.bool false),(18,(ptr l1 (0+1))),(19,v19),(20,v20),(21,v20),(23,(ptr l1 (0+0))),(24,v24),(22,v22),(25,v25),(3,v25),(27,(ptr l1 (0+2))),(28,v28),(29,.bool false),(30,undef),(31,undef),(32,undef),(33,.bool false),(26,.bool false),(34,(ptr l1 (0+3))),(35,v35),(36,.bool true),(37,v25),(38,v38),(39,v39),(40,v39),(26,v39)]) g2 n22)) (
Qah C K (puts (Qq [a0]) [(1,ptr l1 0),(2,.bool false),(4,(ptr l1 (0+0))),(5,v5),(6,v6),(7,.bool false),(8,(ptr l1 (0+0))),(9,v9),(10,v10),(11,v10),(12,.bool false),(13,(ptr l1 (0+1))),(14,v14),(15,v15),(16,v15),(17,.bool false),(18,(ptr l1 (0+1))),(19,v19),(20,v20),(21,v20),(23,(ptr l1 (0+0))),(24,v24),(22,v22),(25,v25),(3,v25),(27,(ptr l1 (0+2))),(28,v28),(29,.bool false),(30,undef),(31,undef),(32,undef),(33,.bool false),(26,.bool false),(34,(ptr l1 (0+3))),(35,v35),(36,.bool false),(37,undef),(38,undef),(39,undef),(40,.bool false),(26,.bool false)]) g2 n22))))))
theorem Zd1 (C:CT) (a0:Value) (g:G) (n:Nat) (K:Cont):Xd5 C a0 g n K=Zg Tryz.prog C Jas [a0] g n K:=by kernel_rfl
def Zbb (C:CT) (a0:Value) (g:G) (n:Nat) (K:Cont):Prop:=
Xb .ptr .eql a0 (.pointer none) fun v4=>
Qa v4 (
Qc K (.slice none 0 0) g n) (
Qo a0 fun v6=>
Qe v6 fun l7 o7=>
kLd g l7 (o7+0) fun v8=>
C Qx [v8] g n fun v9 g1 n9=>
Qc K v9 g1 n9)
theorem JbD (C:CT) (a0:Value) (g:G) (n:Nat) (K:Cont):Zbb C a0 g n K=Zg Tryz.prog C Zah [a0] g n K:=by kernel_rfl
def JB (C:CT) (K:Cont) (t:Env) (g:G) (n:Nat):Prop:=
Qo (t 0) fun v59=>
Qe v59 fun l60 o60=>
kSt g l60 (o60+2) (t 9) fun g8=>
Qc K (.int .i64 0) g8 n
def JJ (C:CT) (K:Cont) (J:Qn) (t:Env) (g:G) (n:Nat):Prop:=
Qo (t 0) fun v35=>
Qe v35 fun l36 o36=>
kLd g l36 (o36+2) fun v37=>
ZaH v37 fun v38=>
Xb .int .add v38 (.int .i64 1) fun v39=>
QbK v39 v39 [.int .i64 0,.int .u64 0,.int .u64 0,.int .u64 0,.int .u64 0,.int .u64 0,.int .u64 0,.int .u64 0,.int .u64 0] 72 g n fun v40 g5 n40=>
Qo (t 0) fun v43=>
Qe v43 fun l44 o44=>
kLd g5 l44 (o44+2) fun v45=>
Zbk v40 v45 9 g5 fun v46 g6=>
Qo (t 0) fun v49=>
Qe v49 fun l50 o50=>
kLd g6 l50 (o50+2) fun v51=>
ZaH v51 fun v52=>
Qe (t 5) fun l54 o54=>
Zn g6 l54 o54 8 fun c54=>
Xk [.int .i64 0,.int .u64 0,.int .u64 0,.int .u64 0,.int .u64 0,.int .u64 0,.int .u64 0,.int .u64 0,.int .u64 0] [(0,none,t 1),(1,some 8,.agg c54.toArray)] fun c55=>
Jc v40 v52 9 fun v56=>
Qe v56 fun lg7 og7=>
Jl (.agg c55.toArray) fun cg7=>
cg7.length=9∧Xw g6 lg7 og7 cg7 fun g7=>
J (puts t [(34,t 0),(35,v35),(36,(ptr l36 (o36+2))),(37,v37),(38,v38),(39,v39),(40,v40),(9,v40),(41,v40),(42,t 0),(43,v43),(44,(ptr l44 (o44+2))),(45,v45),(46,v46),(47,v40),(48,t 0),(49,v49),(50,(ptr l50 (o50+2))),(51,v51),(52,v52),(53,t 1),(54,.agg c54.toArray),(55,.agg c55.toArray),(56,v56)]) g7 n40
def Qaw (C:CT) (a0 a1 a2:Value) (J:Qn) (g:G) (n:Nat) (K:Cont):Prop:=
Jl a2 fun c5=>
Zw c5 .exact g n fun l5 g1 n5=>
Xb .ptr .eql a0 (.pointer none) fun v11=>
Qa v11 (
Qc K (.int .i64 1) g1 n5) (
Qo a0 fun v14=>
Qe v14 fun l15 o15=>
kLd g1 l15 (o15+0) fun v16=>
C Zaq [v16,a1] g1 n5 fun v18 g2 n18=>
Xd v18 0 fun v19=>
Xd v18 1 fun v20=>
Zw [.int .u64 0,.int .u64 0,.int .u64 0,.int .u64 0,.int .u64 0,.int .u64 0,.int .u64 0,.int .u64 0] .exact g2 n18 fun l7 g3 n7=>
Jl v19 fun cg4=>
cg4.length=8∧Xw g3 l7 0 cg4 fun g4=>
Xb .int .neq v20 (.int .i64 0) fun v22=>
Qa v22 (
Qc K v20 g4 n7) (
Qo a0 fun v25=>
Qe v25 fun l26 o26=>
kLd g4 l26 (o26+2) fun v27=>
ZaH v27 fun v28=>
Qo a0 fun v30=>
Qe v30 fun l31 o31=>
kLd g4 l31 (o31+1) fun v32=>
Xb .int .geq v28 v32 fun v33=>
Qa v33 (
Qc K (.int .i64 13) g4 n7) (
J (puts (Qq [a0,a1,a2]) [(5,ptr l5 0),(6,.int .i64 0),(10,a0),(11,v11),(13,a0),(14,v14),(15,(ptr l15 (o15+0))),(16,v16),(17,a1),(18,v18),(12,v18),(19,v19),(20,v20),(7,ptr l7 0),(8,v20),(21,v20),(22,v22),(24,a0),(25,v25),(26,(ptr l26 (o26+2))),(27,v27),(28,v28),(29,a0),(30,v30),(31,(ptr l31 (o31+1))),(32,v32),(33,v33)]) g4 n7)))
def QaN (C:CT) (a0 a1 a2:Value) (g:G) (n:Nat) (K:Cont):Prop:=Qaw C a0 a1 a2 (JJ C K (JB C K)) g n K
theorem Qa2 (C:CT) (t:Env) (g:G) (n:Nat) (K:Cont):JB C K t g n=XaG Tryz.prog C [1,1,1,1,1,1,1] Qp K t g n:=by kernel_rfl
theorem Qbc (C:CT) (K:Cont):JB C K=XaG Tryz.prog C [1,1,1,1,1,1,1] Qp K:=funext fun t=>funext fun g=>funext fun n=>Qa2 C t g n K
theorem Xa4 (C:CT) (J:Qn) (t:Env) (g:G) (n:Nat) (K:Cont):JJ C K J t g n=Qbp Tryz.prog C [1,1,1,1] [1,1,1] J Qp K t g n:=by kernel_rfl
theorem Xbb (C:CT) (K:Cont):JJ C K (JB C K)=XaG Tryz.prog C [1,1,1,1] Qp K:=by
 rw [Qbc]
 exact (funext fun t=>funext fun g=>funext fun n=>Xa4 C _ t g n K).trans (XbL Tryz.prog C [1,1,1,1] [1,1,1] Qp K)
theorem Zbd (C:CT) (a0 a1 a2:Value) (J:Qn) (g:G) (n:Nat) (K:Cont):Qaw C a0 a1 a2 J g n K=Qcm Tryz.prog C [1,1,1,1] J Qp [a0,a1,a2] g n K:=by kernel_rfl
theorem Jb8 (C:CT) (a0 a1 a2:Value) (g:G) (n:Nat) (K:Cont):QaN C a0 a1 a2 g n K=Zg Tryz.prog C Qp [a0,a1,a2] g n K:=by
 unfold QaN
 rw [Zbd,Xbb]
 exact Jcv Tryz.prog C [1,1,1,1] Qp [a0,a1,a2] g n K
def Xa9 (C:CT) (a0:Value) (g:G) (n:Nat) (K:Cont):Prop:=
Xb .ptr .eql a0 (.pointer none) fun v4=>
Qa v4 (
Qc K (.bool true) g n) (
Qo a0 fun v7=>
Qe v7 fun l8 o8=>
kLd g l8 (o8+0) fun v9=>
C JF [v9] g n fun v10 g1 n10=>
C Jw [v10,(.func (.func X4) #[] #[])] g1 n10 fun v11 g2 n11=>
kUn .not v11 fun v12=>
Qc K v12 g2 n11)
theorem XbE (C:CT) (a0:Value) (g:G) (n:Nat) (K:Cont):Xa9 C a0 g n K=Zg Tryz.prog C ZV [a0] g n K:=by kernel_rfl
def XZ (C:CT) (K:Cont) (t:Env) (g:G) (n:Nat):Prop:=
Qo (t 0) fun v18=>
Qe v18 fun l19 o19=>
kLd g l19 (o19+0) fun v20=>
Qe (t 3) fun l21 o21=>
kLd g l21 (o21+1) fun v22=>
Qe (t 3) fun l24 o24=>
Zn g l24 (o24+2) 8 fun c25=>
C ZE [v20,v22,t 6,.agg c25.toArray] g n fun v26 g6 n26=>
Qe (t 5) fun l27 o27=>
Zn g6 l27 o27 12 fun c27=>
Xk (reps 1 [.int .i64 0,.int .i64 0,.bool false,.bool false,.int .u64 0,.int .u64 0,.int .u64 0,.int .u64 0,.int .u64 0,.int .u64 0,.int .u64 0,.int .u64 0]) [(0,some 12,.agg c27.toArray)] fun c28=>
Zw c28 .exact g6 n26 fun l28 g7 n28=>
Qc K (.slice (some ⟨l28,0,none⟩) 1 1) g7 n28
def Qbm (C:CT) (a0 a1:Value) (g:G) (n:Nat) (K:Cont):Prop:=
Jl a1 fun c3=>
Zw c3 .exact g n fun l3 g1 n3=>
kLd g1 l3 (0+1) fun v8=>
Xk [.int .i64 0,.int .i64 0,.bool false,.bool false,.int .u64 0,.int .u64 0,.int .u64 0,.int .u64 0,.int .u64 0,.int .u64 0,.int .u64 0,.int .u64 0] [(0,none,.int .i64 3),(1,none,v8)] fun c9=>
Zw [.int .i64 0,.int .i64 0,.bool false,.bool false,.int .u64 0,.int .u64 0,.int .u64 0,.int .u64 0,.int .u64 0,.int .u64 0,.int .u64 0,.int .u64 0] .exact g1 n3 fun l5 g2 n5=>
Jl (.agg c9.toArray) fun cg3=>
cg3.length=12∧Xw g2 l5 0 cg3 fun g3=>
kLd g3 l3 (0+0) fun v11=>
Xb .int .eql v11 (.int .i64 3) fun v12=>
Qa v12 (
Zn g3 l3 (0+2) 8 fun c14=>
kSt g3 l5 (0+2) (.bool true) fun g4=>
(Qe (ptr l3 (0+2)) fun l _=>g4 l=g3 l)∧Jl (.agg c14.toArray) fun cg5=>
cg5.length=8∧Xw g4 l5 (0+4) cg5 fun g5=>
XZ C K (puts (Qq [a0,a1]) [(3,ptr l3 0),(4,.slice none 0 0),(7,(ptr l3 (0+1))),(8,v8),(9,.agg c9.toArray),(5,ptr l5 0),(6,.int .i64 7),(10,(ptr l3 (0+0))),(11,v11),(12,v12),(13,(ptr l3 (0+2))),(14,.agg c14.toArray),(6,.int .i64 9),(15,(ptr l5 (0+2))),(16,(ptr l5 (0+4)))]) g5 n5) (
XZ C K (puts (Qq [a0,a1]) [(3,ptr l3 0),(4,.slice none 0 0),(7,(ptr l3 (0+1))),(8,v8),(9,.agg c9.toArray),(5,ptr l5 0),(6,.int .i64 7),(10,(ptr l3 (0+0))),(11,v11),(12,v12)]) g3 n5)
theorem XbR (C:CT) (a0 a1:Value) (g:G) (n:Nat) (K:Cont):Qbm C a0 a1 g n K=Zg Tryz.prog C JN [a0,a1] g n K:=by kernel_rfl
def QaW (C:CT) (a0:Value) (g:G) (n:Nat) (K:Cont):Prop:=
Xb .ptr .eql a0 (.pointer none) fun v4=>
Qa v4 (
Qc K (.slice none 0 0) g n) (
Qo a0 fun v6=>
Qe v6 fun l7 o7=>
kLd g l7 (o7+2) fun v8=>
C Js [v8] g n fun v9 g1 n9=>
C Xo [v9,(.func (.func Qau) #[] #[])] g1 n9 fun v10 g2 n10=>
Qc K v10 g2 n10)
theorem Zbw (C:CT) (a0:Value) (g:G) (n:Nat) (K:Cont):QaW C a0 g n K=Zg Tryz.prog C JF [a0] g n K:=by kernel_rfl
def XaU (C:CT) (a0 a1:Value) (g:G) (n:Nat) (K:Cont):Prop:=
Xb .ptr .eql a0 (.pointer none) fun v7=>
Qa v7 (
Qc K (.slice none 0 0) g n) (
C JaE [a1,.int .i64 0] g n fun v10 g1 n10=>
kUn .not v10 fun v11=>
Qa v11 (
Qc K (.slice none 0 0) g1 n10) (
C XU [a0,a1] g1 n10 fun v16 g2 n16=>
Qa v16 (
Qc K (.slice none 0 0) g2 n16) (
C Ql [a0,a1] g2 n16 fun v20 g3 n20=>
Zw [.int .i64 0,.int .i64 0,.int .u64 0,.int .u64 0,.int .u64 0,.int .u64 0,.int .u64 0,.int .u64 0,.int .u64 0,.int .u64 0,.int .i64 0] .exact g3 n20 fun l5 g4 n5=>
Jl v20 fun cg5=>
cg5.length=11∧Xw g4 l5 0 cg5 fun g5=>
kLd g5 l5 (0+0) fun v22=>
Xb .int .eql v22 (.int .i64 1) fun v23=>
Qa v23 (
Zn g5 l5 (0+2) 8 fun c27=>
C QM [a0,a1,.int .i64 6,.int .i64 2,.agg c27.toArray] g5 n5 fun v28 g6 n28=>
Qc K v28 g6 n28) (
Xk [.int .u64 0,.int .u64 0,.int .u64 0,.int .u64 0,.int .u64 0,.int .u64 0,.int .u64 0,.int .u64 0] [] fun c31=>
C QM [a0,a1,.int .i64 5,.int .i64 2,.agg c31.toArray] g5 n5 fun v32 g7 n32=>
Qc K v32 g7 n32))))
theorem Zby (C:CT) (a0 a1:Value) (g:G) (n:Nat) (K:Cont):XaU C a0 a1 g n K=Zg Tryz.prog C Xaa [a0,a1] g n K:=by kernel_rfl
def Qba (C:CT) (a0 a1:Value) (g:G) (n:Nat) (K:Cont):Prop:=
Xb .ptr .eql a0 (.pointer none) fun v7=>
Qa v7 (
Qc K (.bool false) g n) (
C Ql [a0,a1] g n fun v10 g1 n10=>
Zw [.int .i64 0,.int .i64 0,.int .u64 0,.int .u64 0,.int .u64 0,.int .u64 0,.int .u64 0,.int .u64 0,.int .u64 0,.int .u64 0,.int .i64 0] .exact g1 n10 fun l5 g2 n5=>
Jl v10 fun cg3=>
cg3.length=11∧Xw g2 l5 0 cg3 fun g3=>
kLd g3 l5 (0+0) fun v12=>
Xb .int .eql v12 (.int .i64 2) fun v13=>
Qa v13 (
Qc K (.bool true) g3 n5) (
kLd g3 l5 (0+0) fun v16=>
Xb .int .eql v16 (.int .i64 3) fun v17=>
Qc K v17 g3 n5))
theorem QbH (C:CT) (a0 a1:Value) (g:G) (n:Nat) (K:Cont):Qba C a0 a1 g n K=Zg Tryz.prog C XU [a0,a1] g n K:=by kernel_rfl
def QZ (C:CT) (K:Cont) (t:Env) (g:G) (n:Nat):Prop:=
Xb .int .lss (t 9) (.int .i64 0) fun v36=>
Qa v36 (
Qc K (.int .i64 13) g n) (
Qe (t 7) fun l41 o41=>
Zn g l41 o41 8 fun c41=>
C ZM [t 0] g n fun v43 g5 n43=>
(Qe (t 7) fun l _=>g5 l=g l)∧Xk [.int .i64 0,.int .i64 0,.int .u64 0,.int .u64 0,.int .u64 0,.int .u64 0,.int .u64 0,.int .u64 0,.int .u64 0,.int .u64 0,.int .i64 0] [(0,none,t 2),(1,none,t 1),(2,some 8,.agg c41.toArray),(10,none,v43)] fun c44=>
Jc (t 10) (t 9) 11 fun v45=>
Qe v45 fun lg6 og6=>
Jl (.agg c44.toArray) fun cg6=>
cg6.length=11∧Xw g5 lg6 og6 cg6 fun g6=>
Qc K (.int .i64 0) g6 n43)
def Qbj (C:CT) (a0 a1 a2 a3:Value) (g:G) (n:Nat) (K:Cont):Prop:=
Jl a3 fun c7=>
Zw c7 .exact g n fun l7 g1 n7=>
Xb .ptr .eql a0 (.pointer none) fun v12=>
Qa v12 (
Qc K (.int .i64 1) g1 n7) (
Xb .int .lss a1 (.int .i64 0) fun v15=>
Qa v15 (
Qc K (.int .i64 1) g1 n7) (
Xb .int .lss a2 (.int .i64 1) fun v19=>
Qa v19 (
Qc K (.int .i64 1) g1 n7) (
Xb .int .gtr a2 (.int .i64 9) fun v23=>
Qa v23 (
Qc K (.int .i64 1) g1 n7) (
C XH [a0,a1] g1 n7 fun v27 g2 n27=>
C Jt [a0,a1] g2 n27 fun v30 g3 n30=>
Xb .int .lss v27 (.int .i64 0) fun v32=>
Qa v32 (
C Xf [v30,(.func (.func Qau) #[] #[])] g3 n30 fun v34 g4 n34=>
QZ C K (puts (Qq [a0,a1,a2,a3]) [(7,ptr l7 0),(8,.int .i64 0),(11,a0),(12,v12),(13,.bool false),(14,a1),(15,v15),(16,v15),(17,.bool false),(18,a2),(19,v19),(20,v19),(21,.bool false),(22,a2),(23,v23),(24,v23),(25,a0),(26,a1),(27,v27),(28,a0),(29,a1),(30,v30),(9,v27),(10,v30),(31,v27),(32,v32),(33,v30),(34,v34),(9,v34)]) g4 n34) (
QZ C K (puts (Qq [a0,a1,a2,a3]) [(7,ptr l7 0),(8,.int .i64 0),(11,a0),(12,v12),(13,.bool false),(14,a1),(15,v15),(16,v15),(17,.bool false),(18,a2),(19,v19),(20,v19),(21,.bool false),(22,a2),(23,v23),(24,v23),(25,a0),(26,a1),(27,v27),(28,a0),(29,a1),(30,v30),(9,v27),(10,v30),(31,v27),(32,v32)]) g3 n30)))))
theorem XbM (C:CT) (a0 a1 a2 a3:Value) (g:G) (n:Nat) (K:Cont):Qbj C a0 a1 a2 a3 g n K=Zg Tryz.prog C ZE [a0,a1,a2,a3] g n K:=by kernel_rfl
def XbW (C:CT) (a0:Value) (g:G) (n:Nat) (K:Cont):Prop:=
Xb .ptr .eql a0 (.pointer none) fun v4=>
Qa v4 (
Qc K (.int .i64 0) g n) (
Qo a0 fun v6=>
Qe v6 fun l7 o7=>
kLd g l7 (o7+0) fun v8=>
ZaH v8 fun v9=>
Qc K v9 g n)
theorem Jcj (C:CT) (a0:Value) (g:G) (n:Nat) (K:Cont):XbW C a0 g n K=Zg Tryz.prog C Qaf [a0] g n K:=by kernel_rfl
def Jcw (C:CT) (K:Cont) (t:Env) (g:G) (n:Nat):Prop:=
Qa (t 87) (
Qe (t 1) fun l90 o90=>
kLd g l90 (o90+13) fun v91=>
C Zat [v91] g n fun v92 g4 n92=>
Qc K v92 g4 n92) (
Qc K (.bool false) g n)
def JE (C:CT) (K:Cont) (t:Env) (g:G) (n:Nat):Prop:=
Qa (t 76) (
Qe (t 1) fun l79 o79=>
kLd g l79 (o79+13) fun v80=>
C Zat [v80] g n fun v81 g3 n81=>
Qa v81 (
Qe (t 1) fun l83 o83=>
kLd g3 l83 (o83+14) fun v84=>
Xb .int .neq v84 (.int .u8 0) fun v85=>
Qc K v85 g3 n81) (
Qc K (.bool false) g3 n81)) (
Xb .int .eql (t 65) (.int .i64 4) fun v88=>
Qa v88 (
Jcw C K (puts t [(88,v88),(87,v88)]) g n) (
Xb .int .eql (t 65) (.int .i64 5) fun v89=>
Jcw C K (puts t [(88,v88),(87,v88),(89,v89),(87,v89)]) g n))
def Xeh (C:CT) (a0:Value) (g:G) (n:Nat) (K:Cont):Prop:=
Jl a0 fun c1=>
Zw c1 .exact g n fun l1 g1 n1=>
kLd g1 l1 (0+10) fun v5=>
Xb .int .geq v5 (.int .i64 0) fun v6=>
Qa v6 (
kLd g1 l1 (0+10) fun v14=>
Xb .int .lss v14 (.int .i64 (-1)) fun v15=>
Qa v15 (
Qc K (.bool false) g1 n1) (
kLd g1 l1 (0+10) fun v18=>
Xb .int .geq v18 (.int .i64 8) fun v19=>
Qa v19 (
Qc K (.bool false) g1 n1) (
kLd g1 l1 (0+10) fun v23=>
Xb .int .geq v23 (.int .i64 0) fun v24=>
Qa v24 (
kLd g1 l1 (0+11) fun v27=>
Xb .int .neq v27 (.int .u8 0) fun v28=>
Qa v28 (
Qc K (.bool false) g1 n1) (
kLd g1 l1 (0+0) fun v33=>
kUn .not v33 fun v34=>
Qa v34 (
kLd g1 l1 (0+1) fun v37=>
Qa v37 (
Qc K (.bool false) g1 n1) (
Qc K (.bool false) g1 n1)) (
kLd g1 l1 (0+14) fun v55=>
kLd g1 l1 (0+11) fun v57=>
kLd g1 l1 (0+10) fun v59=>
C Jp [v59] g1 n1 fun v60 g2 n60=>
(Qe (ptr l1 (0+14)) fun l _=>g2 l=g1 l)∧(Qe (ptr l1 (0+11)) fun l _=>g2 l=g1 l)∧Xb .int .or v57 v60 fun v61=>
Xb .int .andNot v55 v61 fun v62=>
Xb .int .neq v62 (.int .u8 0) fun v63=>
Qa v63 (
Qc K (.bool false) g2 n60) (
kLd g2 l1 (0+12) fun v65=>
Xb .int .eql v65 (.int .i64 0) fun v67=>
Qa v67 (
kLd g2 l1 (0+13) fun v69=>
Xb .int .eql v69 (.int .i64 0) fun v70=>
Qa v70 (
kLd g2 l1 (0+14) fun v73=>
Xb .int .eql v73 (.int .u8 0) fun v74=>
Qc K v74 g2 n60) (
Qc K (.bool false) g2 n60)) (
Xb .int .eql v65 (.int .i64 1) fun v77=>
Qa v77 (
JE C K (puts (Qq [a0]) [(1,ptr l1 0),(2,.bool false),(4,(ptr l1 (0+10))),(5,v5),(6,v6),(7,.bool true),(8,undef),(9,undef),(10,undef),(11,.bool true),(3,.bool true),(13,(ptr l1 (0+10))),(14,v14),(15,v15),(16,.bool false),(17,(ptr l1 (0+10))),(18,v18),(19,v19),(20,v19),(21,.bool false),(22,(ptr l1 (0+10))),(23,v23),(24,v24),(25,.bool true),(26,(ptr l1 (0+11))),(27,v27),(28,v28),(29,v28),(30,v28),(12,v28),(32,(ptr l1 (0+0))),(33,v33),(34,v34),(35,.bool false),(36,undef),(37,undef),(38,undef),(39,undef),(40,undef),(41,undef),(42,undef),(43,undef),(44,undef),(45,undef),(46,undef),(47,undef),(48,undef),(49,undef),(50,undef),(51,undef),(52,.bool false),(31,.bool false),(54,(ptr l1 (0+14))),(55,v55),(56,(ptr l1 (0+11))),(57,v57),(58,(ptr l1 (0+10))),(59,v59),(60,v60),(61,v61),(62,v62),(63,v63),(53,v63),(64,(ptr l1 (0+12))),(65,v65),(67,v67),(66,v67),(77,v77),(76,v77)]) g2 n60) (
Xb .int .eql v65 (.int .i64 2) fun v78=>
JE C K (puts (Qq [a0]) [(1,ptr l1 0),(2,.bool false),(4,(ptr l1 (0+10))),(5,v5),(6,v6),(7,.bool true),(8,undef),(9,undef),(10,undef),(11,.bool true),(3,.bool true),(13,(ptr l1 (0+10))),(14,v14),(15,v15),(16,.bool false),(17,(ptr l1 (0+10))),(18,v18),(19,v19),(20,v19),(21,.bool false),(22,(ptr l1 (0+10))),(23,v23),(24,v24),(25,.bool true),(26,(ptr l1 (0+11))),(27,v27),(28,v28),(29,v28),(30,v28),(12,v28),(32,(ptr l1 (0+0))),(33,v33),(34,v34),(35,.bool false),(36,undef),(37,undef),(38,undef),(39,undef),(40,undef),(41,undef),(42,undef),(43,undef),(44,undef),(45,undef),(46,undef),(47,undef),(48,undef),(49,undef),(50,undef),(51,undef),(52,.bool false),(31,.bool false),(54,(ptr l1 (0+14))),(55,v55),(56,(ptr l1 (0+11))),(57,v57),(58,(ptr l1 (0+10))),(59,v59),(60,v60),(61,v61),(62,v62),(63,v63),(53,v63),(64,(ptr l1 (0+12))),(65,v65),(67,v67),(66,v67),(77,v77),(76,v77),(78,v78),(76,v78)]) g2 n60)))))) (
kLd g1 l1 (0+0) fun v33=>
kUn .not v33 fun v34=>
Qa v34 (
kLd g1 l1 (0+1) fun v37=>
Qa v37 (
Qc K (.bool false) g1 n1) (
Qc K (.bool false) g1 n1)) (
kLd g1 l1 (0+14) fun v55=>
kLd g1 l1 (0+11) fun v57=>
kLd g1 l1 (0+10) fun v59=>
C Jp [v59] g1 n1 fun v60 g5 n60=>
(Qe (ptr l1 (0+14)) fun l _=>g5 l=g1 l)∧(Qe (ptr l1 (0+11)) fun l _=>g5 l=g1 l)∧Xb .int .or v57 v60 fun v61=>
Xb .int .andNot v55 v61 fun v62=>
Xb .int .neq v62 (.int .u8 0) fun v63=>
Qa v63 (
Qc K (.bool false) g5 n60) (
kLd g5 l1 (0+12) fun v65=>
Xb .int .eql v65 (.int .i64 0) fun v67=>
Qa v67 (
kLd g5 l1 (0+13) fun v69=>
Xb .int .eql v69 (.int .i64 0) fun v70=>
Qa v70 (
kLd g5 l1 (0+14) fun v73=>
Xb .int .eql v73 (.int .u8 0) fun v74=>
Qc K v74 g5 n60) (
Qc K (.bool false) g5 n60)) (
Xb .int .eql v65 (.int .i64 1) fun v77=>
Qa v77 (
JE C K (puts (Qq [a0]) [(1,ptr l1 0),(2,.bool false),(4,(ptr l1 (0+10))),(5,v5),(6,v6),(7,.bool true),(8,undef),(9,undef),(10,undef),(11,.bool true),(3,.bool true),(13,(ptr l1 (0+10))),(14,v14),(15,v15),(16,.bool false),(17,(ptr l1 (0+10))),(18,v18),(19,v19),(20,v19),(21,.bool false),(22,(ptr l1 (0+10))),(23,v23),(24,v24),(25,.bool false),(26,undef),(27,undef),(28,undef),(29,.bool false),(30,.bool false),(12,.bool false),(32,(ptr l1 (0+0))),(33,v33),(34,v34),(35,.bool false),(36,undef),(37,undef),(38,undef),(39,undef),(40,undef),(41,undef),(42,undef),(43,undef),(44,undef),(45,undef),(46,undef),(47,undef),(48,undef),(49,undef),(50,undef),(51,undef),(52,.bool false),(31,.bool false),(54,(ptr l1 (0+14))),(55,v55),(56,(ptr l1 (0+11))),(57,v57),(58,(ptr l1 (0+10))),(59,v59),(60,v60),(61,v61),(62,v62),(63,v63),(53,v63),(64,(ptr l1 (0+12))),(65,v65),(67,v67),(66,v67),(77,v77),(76,v77)]) g5 n60) (
Xb .int .eql v65 (.int .i64 2) fun v78=>
JE C K (puts (Qq [a0]) [(1,ptr l1 0),(2,.bool false),(4,(ptr l1 (0+10))),(5,v5),(6,v6),(7,.bool true),(8,undef),(9,undef),(10,undef),(11,.bool true),(3,.bool true),(13,(ptr l1 (0+10))),(14,v14),(15,v15),(16,.bool false),(17,(ptr l1 (0+10))),(18,v18),(19,v19),(20,v19),(21,.bool false),(22,(ptr l1 (0+10))),(23,v23),(24,v24),(25,.bool false),(26,undef),(27,undef),(28,undef),(29,.bool false),(30,.bool false),(12,.bool false),(32,(ptr l1 (0+0))),(33,v33),(34,v34),(35,.bool false),(36,undef),(37,undef),(38,undef),(39,undef),(40,undef),(41,undef),(42,undef),(43,undef),(44,undef),(45,undef),(46,undef),(47,undef),(48,undef),(49,undef),(50,undef),(51,undef),(52,.bool false),(31,.bool false),(54,(ptr l1 (0+14))),(55,v55),(56,(ptr l1 (0+11))),(57,v57),(58,(ptr l1 (0+10))),(59,v59),(60,v60),(61,v61),(62,v62),(63,v63),(53,v63),(64,(ptr l1 (0+12))),(65,v65),(67,v67),(66,v67),(77,v77),(76,v77),(78,v78),(76,v78)]) g5 n60)))))))) (
kLd g1 l1 (0+11) fun v9=>
Xb .int .neq v9 (.int .u8 0) fun v10=>
kLd g1 l1 (0+10) fun v14=>
Xb .int .lss v14 (.int .i64 (-1)) fun v15=>
Qa v15 (
Qc K (.bool false) g1 n1) (
kLd g1 l1 (0+10) fun v18=>
Xb .int .geq v18 (.int .i64 8) fun v19=>
Qa v19 (
Qc K (.bool false) g1 n1) (
kLd g1 l1 (0+10) fun v23=>
Xb .int .geq v23 (.int .i64 0) fun v24=>
Qa v24 (
kLd g1 l1 (0+11) fun v27=>
Xb .int .neq v27 (.int .u8 0) fun v28=>
Qa v28 (
Qc K (.bool false) g1 n1) (
kLd g1 l1 (0+0) fun v33=>
kUn .not v33 fun v34=>
Qa v34 (
kLd g1 l1 (0+1) fun v37=>
Qa v37 (
Qc K (.bool false) g1 n1) (
Qa v10 (
Qc K (.bool false) g1 n1) (
kLd g1 l1 (0+12) fun v43=>
Xb .int .neq v43 (.int .i64 0) fun v44=>
Qa v44 (
Qc K (.bool false) g1 n1) (
Zn g1 l1 (0+2) 8 fun c48=>
Xk [.int .u64 0,.int .u64 0,.int .u64 0,.int .u64 0,.int .u64 0,.int .u64 0,.int .u64 0,.int .u64 0] [] fun c49=>
Xb (.agg [.i,.i,.i,.i,.i,.i,.i,.i]) .neq (.agg c48.toArray) (.agg c49.toArray) fun v50=>
Qa v50 (
Qc K (.bool false) g1 n1) (
kLd g1 l1 (0+14) fun v55=>
kLd g1 l1 (0+11) fun v57=>
kLd g1 l1 (0+10) fun v59=>
C Jp [v59] g1 n1 fun v60 g6 n60=>
(Qe (ptr l1 (0+14)) fun l _=>g6 l=g1 l)∧(Qe (ptr l1 (0+11)) fun l _=>g6 l=g1 l)∧Xb .int .or v57 v60 fun v61=>
Xb .int .andNot v55 v61 fun v62=>
Xb .int .neq v62 (.int .u8 0) fun v63=>
Qa v63 (
Qc K (.bool false) g6 n60) (
kLd g6 l1 (0+12) fun v65=>
Xb .int .eql v65 (.int .i64 0) fun v67=>
Qa v67 (
kLd g6 l1 (0+13) fun v69=>
Xb .int .eql v69 (.int .i64 0) fun v70=>
Qa v70 (
kLd g6 l1 (0+14) fun v73=>
Xb .int .eql v73 (.int .u8 0) fun v74=>
Qc K v74 g6 n60) (
Qc K (.bool false) g6 n60)) (
Xb .int .eql v65 (.int .i64 1) fun v77=>
Qa v77 (
JE C K (puts (Qq [a0]) [(1,ptr l1 0),(2,.bool false),(4,(ptr l1 (0+10))),(5,v5),(6,v6),(7,.bool false),(8,(ptr l1 (0+11))),(9,v9),(10,v10),(11,v10),(3,v10),(13,(ptr l1 (0+10))),(14,v14),(15,v15),(16,.bool false),(17,(ptr l1 (0+10))),(18,v18),(19,v19),(20,v19),(21,.bool false),(22,(ptr l1 (0+10))),(23,v23),(24,v24),(25,.bool true),(26,(ptr l1 (0+11))),(27,v27),(28,v28),(29,v28),(30,v28),(12,v28),(32,(ptr l1 (0+0))),(33,v33),(34,v34),(35,.bool true),(36,(ptr l1 (0+1))),(37,v37),(38,.bool false),(39,v10),(40,v10),(41,.bool false),(42,(ptr l1 (0+12))),(43,v43),(44,v44),(45,v44),(46,.bool false),(47,(ptr l1 (0+2))),(48,.agg c48.toArray),(49,.agg c49.toArray),(50,v50),(51,v50),(52,v50),(31,v50),(54,(ptr l1 (0+14))),(55,v55),(56,(ptr l1 (0+11))),(57,v57),(58,(ptr l1 (0+10))),(59,v59),(60,v60),(61,v61),(62,v62),(63,v63),(53,v63),(64,(ptr l1 (0+12))),(65,v65),(67,v67),(66,v67),(77,v77),(76,v77)]) g6 n60) (
Xb .int .eql v65 (.int .i64 2) fun v78=>
JE C K (puts (Qq [a0]) [(1,ptr l1 0),(2,.bool false),(4,(ptr l1 (0+10))),(5,v5),(6,v6),(7,.bool false),(8,(ptr l1 (0+11))),(9,v9),(10,v10),(11,v10),(3,v10),(13,(ptr l1 (0+10))),(14,v14),(15,v15),(16,.bool false),(17,(ptr l1 (0+10))),(18,v18),(19,v19),(20,v19),(21,.bool false),(22,(ptr l1 (0+10))),(23,v23),(24,v24),(25,.bool true),(26,(ptr l1 (0+11))),(27,v27),(28,v28),(29,v28),(30,v28),(12,v28),(32,(ptr l1 (0+0))),(33,v33),(34,v34),(35,.bool true),(36,(ptr l1 (0+1))),(37,v37),(38,.bool false),(39,v10),(40,v10),(41,.bool false),(42,(ptr l1 (0+12))),(43,v43),(44,v44),(45,v44),(46,.bool false),(47,(ptr l1 (0+2))),(48,.agg c48.toArray),(49,.agg c49.toArray),(50,v50),(51,v50),(52,v50),(31,v50),(54,(ptr l1 (0+14))),(55,v55),(56,(ptr l1 (0+11))),(57,v57),(58,(ptr l1 (0+10))),(59,v59),(60,v60),(61,v61),(62,v62),(63,v63),(53,v63),(64,(ptr l1 (0+12))),(65,v65),(67,v67),(66,v67),(77,v77),(76,v77),(78,v78),(76,v78)]) g6 n60)))))))) (
kLd g1 l1 (0+14) fun v55=>
kLd g1 l1 (0+11) fun v57=>
kLd g1 l1 (0+10) fun v59=>
C Jp [v59] g1 n1 fun v60 g7 n60=>
(Qe (ptr l1 (0+14)) fun l _=>g7 l=g1 l)∧(Qe (ptr l1 (0+11)) fun l _=>g7 l=g1 l)∧Xb .int .or v57 v60 fun v61=>
Xb .int .andNot v55 v61 fun v62=>
Xb .int .neq v62 (.int .u8 0) fun v63=>
Qa v63 (
Qc K (.bool false) g7 n60) (
kLd g7 l1 (0+12) fun v65=>
Xb .int .eql v65 (.int .i64 0) fun v67=>
Qa v67 (
kLd g7 l1 (0+13) fun v69=>
Xb .int .eql v69 (.int .i64 0) fun v70=>
Qa v70 (
kLd g7 l1 (0+14) fun v73=>
Xb .int .eql v73 (.int .u8 0) fun v74=>
Qc K v74 g7 n60) (
Qc K (.bool false) g7 n60)) (
Xb .int .eql v65 (.int .i64 1) fun v77=>
Qa v77 (
JE C K (puts (Qq [a0]) [(1,ptr l1 0),(2,.bool false),(4,(ptr l1 (0+10))),(5,v5),(6,v6),(7,.bool false),(8,(ptr l1 (0+11))),(9,v9),(10,v10),(11,v10),(3,v10),(13,(ptr l1 (0+10))),(14,v14),(15,v15),(16,.bool false),(17,(ptr l1 (0+10))),(18,v18),(19,v19),(20,v19),(21,.bool false),(22,(ptr l1 (0+10))),(23,v23),(24,v24),(25,.bool true),(26,(ptr l1 (0+11))),(27,v27),(28,v28),(29,v28),(30,v28),(12,v28),(32,(ptr l1 (0+0))),(33,v33),(34,v34),(35,.bool false),(36,undef),(37,undef),(38,undef),(39,undef),(40,undef),(41,undef),(42,undef),(43,undef),(44,undef),(45,undef),(46,undef),(47,undef),(48,undef),(49,undef),(50,undef),(51,undef),(52,.bool false),(31,.bool false),(54,(ptr l1 (0+14))),(55,v55),(56,(ptr l1 (0+11))),(57,v57),(58,(ptr l1 (0+10))),(59,v59),(60,v60),(61,v61),(62,v62),(63,v63),(53,v63),(64,(ptr l1 (0+12))),(65,v65),(67,v67),(66,v67),(77,v77),(76,v77)]) g7 n60) (
Xb .int .eql v65 (.int .i64 2) fun v78=>
JE C K (puts (Qq [a0]) [(1,ptr l1 0),(2,.bool false),(4,(ptr l1 (0+10))),(5,v5),(6,v6),(7,.bool false),(8,(ptr l1 (0+11))),(9,v9),(10,v10),(11,v10),(3,v10),(13,(ptr l1 (0+10))),(14,v14),(15,v15),(16,.bool false),(17,(ptr l1 (0+10))),(18,v18),(19,v19),(20,v19),(21,.bool false),(22,(ptr l1 (0+10))),(23,v23),(24,v24),(25,.bool true),(26,(ptr l1 (0+11))),(27,v27),(28,v28),(29,v28),(30,v28),(12,v28),(32,(ptr l1 (0+0))),(33,v33),(34,v34),(35,.bool false),(36,undef),(37,undef),(38,undef),(39,undef),(40,undef),(41,undef),(42,undef),(43,undef),(44,undef),(45,undef),(46,undef),(47,undef),(48,undef),(49,undef),(50,undef),(51,undef),(52,.bool false),(31,.bool false),(54,(ptr l1 (0+14))),(55,v55),(56,(ptr l1 (0+11))),(57,v57),(58,(ptr l1 (0+10))),(59,v59),(60,v60),(61,v61),(62,v62),(63,v63),(53,v63),(64,(ptr l1 (0+12))),(65,v65),(67,v67),(66,v67),(77,v77),(76,v77),(78,v78),(76,v78)]) g7 n60)))))) (
kLd g1 l1 (0+0) fun v33=>
kUn .not v33 fun v34=>
Qa v34 (
kLd g1 l1 (0+1) fun v37=>
Qa v37 (
Qc K (.bool false) g1 n1) (
Qa v10 (
Qc K (.bool false) g1 n1) (
kLd g1 l1 (0+12) fun v43=>
Xb .int .neq v43 (.int .i64 0) fun v44=>
Qa v44 (
Qc K (.bool false) g1 n1) (
Zn g1 l1 (0+2) 8 fun c48=>
Xk [.int .u64 0,.int .u64 0,.int .u64 0,.int .u64 0,.int .u64 0,.int .u64 0,.int .u64 0,.int .u64 0] [] fun c49=>
Xb (.agg [.i,.i,.i,.i,.i,.i,.i,.i]) .neq (.agg c48.toArray) (.agg c49.toArray) fun v50=>
Qa v50 (
Qc K (.bool false) g1 n1) (
kLd g1 l1 (0+14) fun v55=>
kLd g1 l1 (0+11) fun v57=>
kLd g1 l1 (0+10) fun v59=>
C Jp [v59] g1 n1 fun v60 g8 n60=>
(Qe (ptr l1 (0+14)) fun l _=>g8 l=g1 l)∧(Qe (ptr l1 (0+11)) fun l _=>g8 l=g1 l)∧Xb .int .or v57 v60 fun v61=>
Xb .int .andNot v55 v61 fun v62=>
Xb .int .neq v62 (.int .u8 0) fun v63=>
Qa v63 (
Qc K (.bool false) g8 n60) (
kLd g8 l1 (0+12) fun v65=>
Xb .int .eql v65 (.int .i64 0) fun v67=>
Qa v67 (
kLd g8 l1 (0+13) fun v69=>
Xb .int .eql v69 (.int .i64 0) fun v70=>
Qa v70 (
kLd g8 l1 (0+14) fun v73=>
Xb .int .eql v73 (.int .u8 0) fun v74=>
Qc K v74 g8 n60) (
Qc K (.bool false) g8 n60)) (
Xb .int .eql v65 (.int .i64 1) fun v77=>
Qa v77 (
JE C K (puts (Qq [a0]) [(1,ptr l1 0),(2,.bool false),(4,(ptr l1 (0+10))),(5,v5),(6,v6),(7,.bool false),(8,(ptr l1 (0+11))),(9,v9),(10,v10),(11,v10),(3,v10),(13,(ptr l1 (0+10))),(14,v14),(15,v15),(16,.bool false),(17,(ptr l1 (0+10))),(18,v18),(19,v19),(20,v19),(21,.bool false),(22,(ptr l1 (0+10))),(23,v23),(24,v24),(25,.bool false),(26,undef),(27,undef),(28,undef),(29,.bool false),(30,.bool false),(12,.bool false),(32,(ptr l1 (0+0))),(33,v33),(34,v34),(35,.bool true),(36,(ptr l1 (0+1))),(37,v37),(38,.bool false),(39,v10),(40,v10),(41,.bool false),(42,(ptr l1 (0+12))),(43,v43),(44,v44),(45,v44),(46,.bool false),(47,(ptr l1 (0+2))),(48,.agg c48.toArray),(49,.agg c49.toArray),(50,v50),(51,v50),(52,v50),(31,v50),(54,(ptr l1 (0+14))),(55,v55),(56,(ptr l1 (0+11))),(57,v57),(58,(ptr l1 (0+10))),(59,v59),(60,v60),(61,v61),(62,v62),(63,v63),(53,v63),(64,(ptr l1 (0+12))),(65,v65),(67,v67),(66,v67),(77,v77),(76,v77)]) g8 n60) (
Xb .int .eql v65 (.int .i64 2) fun v78=>
JE C K (puts (Qq [a0]) [(1,ptr l1 0),(2,.bool false),(4,(ptr l1 (0+10))),(5,v5),(6,v6),(7,.bool false),(8,(ptr l1 (0+11))),(9,v9),(10,v10),(11,v10),(3,v10),(13,(ptr l1 (0+10))),(14,v14),(15,v15),(16,.bool false),(17,(ptr l1 (0+10))),(18,v18),(19,v19),(20,v19),(21,.bool false),(22,(ptr l1 (0+10))),(23,v23),(24,v24),(25,.bool false),(26,undef),(27,undef),(28,undef),(29,.bool false),(30,.bool false),(12,.bool false),(32,(ptr l1 (0+0))),(33,v33),(34,v34),(35,.bool true),(36,(ptr l1 (0+1))),(37,v37),(38,.bool false),(39,v10),(40,v10),(41,.bool false),(42,(ptr l1 (0+12))),(43,v43),(44,v44),(45,v44),(46,.bool false),(47,(ptr l1 (0+2))),(48,.agg c48.toArray),(49,.agg c49.toArray),(50,v50),(51,v50),(52,v50),(31,v50),(54,(ptr l1 (0+14))),(55,v55),(56,(ptr l1 (0+11))),(57,v57),(58,(ptr l1 (0+10))),(59,v59),(60,v60),(61,v61),(62,v62),(63,v63),(53,v63),(64,(ptr l1 (0+12))),(65,v65),(67,v67),(66,v67),(77,v77),(76,v77),(78,v78),(76,v78)]) g8 n60)))))))) (
kLd g1 l1 (0+14) fun v55=>
kLd g1 l1 (0+11) fun v57=>
kLd g1 l1 (0+10) fun v59=>
C Jp [v59] g1 n1 fun v60 g9 n60=>
(Qe (ptr l1 (0+14)) fun l _=>g9 l=g1 l)∧(Qe (ptr l1 (0+11)) fun l _=>g9 l=g1 l)∧Xb .int .or v57 v60 fun v61=>
Xb .int .andNot v55 v61 fun v62=>
Xb .int .neq v62 (.int .u8 0) fun v63=>
Qa v63 (
Qc K (.bool false) g9 n60) (
kLd g9 l1 (0+12) fun v65=>
Xb .int .eql v65 (.int .i64 0) fun v67=>
Qa v67 (
kLd g9 l1 (0+13) fun v69=>
Xb .int .eql v69 (.int .i64 0) fun v70=>
Qa v70 (
kLd g9 l1 (0+14) fun v73=>
Xb .int .eql v73 (.int .u8 0) fun v74=>
Qc K v74 g9 n60) (
Qc K (.bool false) g9 n60)) (
Xb .int .eql v65 (.int .i64 1) fun v77=>
Qa v77 (
JE C K (puts (Qq [a0]) [(1,ptr l1 0),(2,.bool false),(4,(ptr l1 (0+10))),(5,v5),(6,v6),(7,.bool false),(8,(ptr l1 (0+11))),(9,v9),(10,v10),(11,v10),(3,v10),(13,(ptr l1 (0+10))),(14,v14),(15,v15),(16,.bool false),(17,(ptr l1 (0+10))),(18,v18),(19,v19),(20,v19),(21,.bool false),(22,(ptr l1 (0+10))),(23,v23),(24,v24),(25,.bool false),(26,undef),(27,undef),(28,undef),(29,.bool false),(30,.bool false),(12,.bool false),(32,(ptr l1 (0+0))),(33,v33),(34,v34),(35,.bool false),(36,undef),(37,undef),(38,undef),(39,undef),(40,undef),(41,undef),(42,undef),(43,undef),(44,undef),(45,undef),(46,undef),(47,undef),(48,undef),(49,undef),(50,undef),(51,undef),(52,.bool false),(31,.bool false),(54,(ptr l1 (0+14))),(55,v55),(56,(ptr l1 (0+11))),(57,v57),(58,(ptr l1 (0+10))),(59,v59),(60,v60),(61,v61),(62,v62),(63,v63),(53,v63),(64,(ptr l1 (0+12))),(65,v65),(67,v67),(66,v67),(77,v77),(76,v77)]) g9 n60) (
Xb .int .eql v65 (.int .i64 2) fun v78=>
JE C K (puts (Qq [a0]) [(1,ptr l1 0),(2,.bool false),(4,(ptr l1 (0+10))),(5,v5),(6,v6),(7,.bool false),(8,(ptr l1 (0+11))),(9,v9),(10,v10),(11,v10),(3,v10),(13,(ptr l1 (0+10))),(14,v14),(15,v15),(16,.bool false),(17,(ptr l1 (0+10))),(18,v18),(19,v19),(20,v19),(21,.bool false),(22,(ptr l1 (0+10))),(23,v23),(24,v24),(25,.bool false),(26,undef),(27,undef),(28,undef),(29,.bool false),(30,.bool false),(12,.bool false),(32,(ptr l1 (0+0))),(33,v33),(34,v34),(35,.bool false),(36,undef),(37,undef),(38,undef),(39,undef),(40,undef),(41,undef),(42,undef),(43,undef),(44,undef),(45,undef),(46,undef),(47,undef),(48,undef),(49,undef),(50,undef),(51,undef),(52,.bool false),(31,.bool false),(54,(ptr l1 (0+14))),(55,v55),(56,(ptr l1 (0+11))),(57,v57),(58,(ptr l1 (0+10))),(59,v59),(60,v60),(61,v61),(62,v62),(63,v63),(53,v63),(64,(ptr l1 (0+12))),(65,v65),(67,v67),(66,v67),(77,v77),(76,v77),(78,v78),(76,v78)]) g9 n60))))))))
theorem ZdO (C:CT) (a0:Value) (g:G) (n:Nat) (K:Cont):Xeh C a0 g n K=Zg Tryz.prog C JaB [a0] g n K:=by kernel_rfl
def Qd8 (C:CT) (a0:Value) (g:G) (n:Nat) (K:Cont):Prop:=
Xb .int .geq a0 (.int .i64 0) fun v4=>
Qa v4 (
Xb .int .lss a0 (.int .i64 8) fun v7=>
Qc K v7 g n) (
Qc K (.bool false) g n)
theorem ZdV (C:CT) (a0:Value) (g:G) (n:Nat) (K:Cont):Qd8 C a0 g n K=Zg Tryz.prog C Zat [a0] g n K:=by kernel_rfl
def Jej (C:CT) (a0:Value) (g:G) (n:Nat) (K:Cont):Prop:=
Xb .int .geq a0 (.int .i64 1) fun v4=>
Qa v4 (
Xb .int .leq a0 (.int .i64 5) fun v7=>
Qc K v7 g n) (
Qc K (.bool false) g n)
theorem ZdP (C:CT) (a0:Value) (g:G) (n:Nat) (K:Cont):Jej C a0 g n K=Zg Tryz.prog C ZbI [a0] g n K:=by kernel_rfl
def Zei (C:CT) (g:G) (n:Nat) (K:Cont):Prop:=
Zw [.nilFunc,.nilFunc,.nilFunc,.nilFunc,.nilFunc,.nilFunc] .exact g n fun l0 g1 n0=>
Xk [.nilFunc,.nilFunc,.nilFunc,.nilFunc,.nilFunc,.nilFunc] [(1,none,(.func (.func Xae) #[] #[])),(2,none,(.func (.func Jaf) #[] #[])),(3,none,(.func (.func Xan) #[] #[])),(4,none,(.func (.func X8) #[] #[])),(5,none,(.func (.func Zae) #[] #[]))] fun c1=>
Jl (.agg c1.toArray) fun cg2=>
cg2.length=6∧Xw g1 l0 0 cg2 fun g2=>
Zn g2 l0 0 6 fun r0=>
Qc K (.agg r0.toArray) g2 n0
theorem Jd0 (C:CT) (g:G) (n:Nat) (K:Cont):Zei C g n K=Zg Tryz.prog C XbB [] g n K:=by kernel_rfl
def Qdz (C:CT) (a0:Value) (g:G) (n:Nat) (K:Cont):Prop:=
Xb .int .geq a0 (.int .i64 8) fun v4=>
Qa v4 (
Xb .int .leq a0 (.int .i64 14) fun v7=>
Qc K v7 g n) (
Qc K (.bool false) g n)
theorem QdC (C:CT) (a0:Value) (g:G) (n:Nat) (K:Cont):Qdz C a0 g n K=Zg Tryz.prog C Xbn [a0] g n K:=by kernel_rfl
def ZT (C:CT) (K:Cont) (t:Env) (g:G) (n:Nat):Prop:=
Xb .int .geq (t 5) (.int .i64 0) fun v18=>
Qc K v18 g n
def Qa5 (C:CT) (a0 a1:Value) (g:G) (n:Nat) (K:Cont):Prop:=
C XH [a0,a1] g n fun v8 g1 n8=>
Xb .int .geq v8 (.int .i64 0) fun v10=>
Qa v10 (
C Jt [a0,a1] g1 n8 fun v13 g2 n13=>
Xk [.int .i64 0,.int .i64 0,.int .u64 0,.int .u64 0,.int .u64 0,.int .u64 0,.int .u64 0,.int .u64 0,.int .u64 0,.int .u64 0,.int .i64 0] [] fun c15=>
Jc v13 v8 11 fun v16=>
Qe v16 fun lg3 og3=>
Jl (.agg c15.toArray) fun cg3=>
cg3.length=11∧Xw g2 lg3 og3 cg3 fun g3=>
ZT C K (puts (Qq [a0,a1]) [(4,.bool false),(6,a0),(7,a1),(8,v8),(5,v8),(9,v8),(10,v10),(11,a0),(12,a1),(13,v13),(14,v8),(15,.agg c15.toArray),(16,v16)]) g3 n13) (
ZT C K (puts (Qq [a0,a1]) [(4,.bool false),(6,a0),(7,a1),(8,v8),(5,v8),(9,v8),(10,v10)]) g1 n8)
theorem ZbL (C:CT) (a0 a1:Value) (g:G) (n:Nat) (K:Cont):Qa5 C a0 a1 g n K=Zg Tryz.prog C Jah [a0,a1] g n K:=by kernel_rfl
def JQ (C:CT) (K:Cont) (t:Env) (g:G) (n:Nat):Prop:=
Qe (t 7) fun l34 o34=>
Zn g l34 o34 12 fun c34=>
Xk (reps 1 [.int .i64 0,.int .i64 0,.bool false,.bool false,.int .u64 0,.int .u64 0,.int .u64 0,.int .u64 0,.int .u64 0,.int .u64 0,.int .u64 0,.int .u64 0]) [(0,some 12,.agg c34.toArray)] fun c35=>
Zw c35 .exact g n fun l35 g8 n35=>
Qc K (.slice (some ⟨l35,0,none⟩) 1 1) g8 n35
def Qap (C:CT) (K:Cont) (t:Env) (g:G) (n:Nat):Prop:=
Qe (t 4) fun l22 o22=>
kLd g l22 (o22+0) fun v23=>
Xb .int .eql v23 (.int .i64 3) fun v24=>
Qa v24 (
Qe (t 4) fun l30 o30=>
Zn g l30 (o30+2) 8 fun c31=>
Qe (t 7) fun l32 o32=>
kSt g l32 (o32+2) (.bool true) fun g6=>
(Qe (ptr l30 (o30+2)) fun l _=>g6 l=g l)∧Qe (t 7) fun l33 o33=>
Jl (.agg c31.toArray) fun cg7=>
cg7.length=8∧Xw g6 l33 (o33+4) cg7 fun g7=>
JQ C K (puts t [(22,(ptr l22 (o22+0))),(23,v23),(24,v24),(25,.bool true),(26,undef),(27,undef),(28,undef),(29,.bool true),(30,(ptr l30 (o30+2))),(31,.agg c31.toArray),(32,(ptr l32 (o32+2))),(33,(ptr l33 (o33+4)))]) g7 n) (
Qe (t 4) fun l26 o26=>
kLd g l26 (o26+0) fun v27=>
Xb .int .eql v27 (.int .i64 9) fun v28=>
Qa v28 (
Qe (t 4) fun l30 o30=>
Zn g l30 (o30+2) 8 fun c31=>
Qe (t 7) fun l32 o32=>
kSt g l32 (o32+2) (.bool true) fun g9=>
(Qe (ptr l30 (o30+2)) fun l _=>g9 l=g l)∧Qe (t 7) fun l33 o33=>
Jl (.agg c31.toArray) fun cg10=>
cg10.length=8∧Xw g9 l33 (o33+4) cg10 fun g10=>
JQ C K (puts t [(22,(ptr l22 (o22+0))),(23,v23),(24,v24),(25,.bool false),(26,(ptr l26 (o26+0))),(27,v27),(28,v28),(29,v28),(30,(ptr l30 (o30+2))),(31,.agg c31.toArray),(32,(ptr l32 (o32+2))),(33,(ptr l33 (o33+4)))]) g10 n) (
JQ C K (puts t [(22,(ptr l22 (o22+0))),(23,v23),(24,v24),(25,.bool false),(26,(ptr l26 (o26+0))),(27,v27),(28,v28),(29,v28)]) g n))
def Jcd (C:CT) (a0 a1 a2:Value) (g:G) (n:Nat) (K:Cont):Prop:=
Jl a0 fun c3=>
Zw c3 .exact g n fun l3 g1 n3=>
Jl a1 fun c4=>
Zw c4 .exact g1 n3 fun l4 g2 n4=>
kLd g2 l3 (0+1) fun v9=>
Xk [.int .i64 0,.int .i64 0,.bool false,.bool false,.int .u64 0,.int .u64 0,.int .u64 0,.int .u64 0,.int .u64 0,.int .u64 0,.int .u64 0,.int .u64 0] [(1,none,v9)] fun c10=>
Zw [.int .i64 0,.int .i64 0,.bool false,.bool false,.int .u64 0,.int .u64 0,.int .u64 0,.int .u64 0,.int .u64 0,.int .u64 0,.int .u64 0,.int .u64 0] .exact g2 n4 fun l7 g3 n7=>
Jl (.agg c10.toArray) fun cg4=>
cg4.length=12∧Xw g3 l7 0 cg4 fun g4=>
kLd g4 l3 (0+0) fun v12=>
Xb .int .eql v12 (.int .i64 12) fun v14=>
Qa v14 (
kSt g4 l7 (0+0) (.int .i64 6) fun g5=>
Qap C K (puts (Qq [a0,a1,a2]) [(3,ptr l3 0),(4,ptr l4 0),(6,.slice none 0 0),(8,(ptr l3 (0+1))),(9,v9),(10,.agg c10.toArray),(7,ptr l7 0),(11,(ptr l3 (0+0))),(12,v12),(14,v14),(13,v14),(15,(ptr l7 (0+0)))]) g5 n7) (
Xb .int .eql v12 (.int .i64 13) fun v17=>
Qa v17 (
Xb .int .eql a2 (.int .i64 1) fun v19=>
kSt g4 l7 (0+0) (.int .i64 7) fun g11=>
kSt g11 l7 (0+3) v19 fun g12=>
Qap C K (puts (Qq [a0,a1,a2]) [(3,ptr l3 0),(4,ptr l4 0),(6,.slice none 0 0),(8,(ptr l3 (0+1))),(9,v9),(10,.agg c10.toArray),(7,ptr l7 0),(11,(ptr l3 (0+0))),(12,v12),(14,v14),(13,v14),(17,v17),(16,v17),(18,a2),(19,v19),(20,(ptr l7 (0+0))),(21,(ptr l7 (0+3)))]) g12 n7) (
Qc K (.slice none 0 0) g4 n7))
theorem Jcr (C:CT) (a0 a1 a2:Value) (g:G) (n:Nat) (K:Cont):Jcd C a0 a1 a2 g n K=Zg Tryz.prog C Xaq [a0,a1,a2] g n K:=by kernel_rfl
def ZcK (C:CT) (a0:Value) (g:G) (n:Nat) (K:Cont):Prop:=
Xb .int .eql a0 (.int .i64 6) fun v4=>
Qa v4 (
Qc K (.bool true) g n) (
Xb .int .eql a0 (.int .i64 7) fun v7=>
Qc K v7 g n)
theorem ZcQ (C:CT) (a0:Value) (g:G) (n:Nat) (K:Cont):ZcK C a0 g n K=Zg Tryz.prog C JaN [a0] g n K:=by kernel_rfl
def Xej (C:CT) (a0 a1:Value) (g:G) (n:Nat) (K:Cont):Prop:=
C Jp [a1] g n fun v7 g1 n7=>
Xb .int .and a0 v7 fun v8=>
Xb .int .neq v8 (.int .u8 0) fun v9=>
Qc K v9 g1 n7
theorem XdK (C:CT) (a0 a1:Value) (g:G) (n:Nat) (K:Cont):Xej C a0 a1 g n K=Zg Tryz.prog C Za1 [a0,a1] g n K:=by kernel_rfl
def Zej (C:CT) (a0:Value) (g:G) (n:Nat) (K:Cont):Prop:=
Xb .int .lss a0 (.int .i64 0) fun v4=>
Qa v4 (
Qc K (.int .u8 0) g n) (
Xb .int .geq a0 (.int .i64 8) fun v7=>
Qa v7 (
Qc K (.int .u8 0) g n) (
Xb .int .shl (.int .u8 1) a0 fun v10=>
Qc K v10 g n))
theorem XdW (C:CT) (a0:Value) (g:G) (n:Nat) (K:Cont):Zej C a0 g n K=Zg Tryz.prog C Jp [a0] g n K:=by kernel_rfl
def QbS (C:CT) (a0 a1:Value) (g:G) (n:Nat) (K:Cont):Prop:=
Jl a1 fun c3=>
Zw c3 .exact g n fun l3 g1 n3=>
kLd g1 l3 (0+2) fun v5=>
Qa v5 (
Zn g1 l3 (0+4) 8 fun c9=>
Qo a0 fun v10=>
Qe v10 fun l11 o11=>
Jl (.agg c9.toArray) fun cg2=>
cg2.length=8∧Xw g1 l11 (o11+0+2) cg2 fun g2=>
Qo a0 fun v13=>
Qe v13 fun l14 o14=>
kSt g2 l14 (o14+0+1) (.bool true) fun g3=>
Qc K (.tuple #[]) g3 n3) (
Qc K (.tuple #[]) g1 n3)
theorem Xcj (C:CT) (a0 a1:Value) (g:G) (n:Nat) (K:Cont):QbS C a0 a1 g n K=Zg Tryz.prog C Jae [a0,a1] g n K:=by kernel_rfl
def JbW (C:CT) (a0:Value) (g:G) (n:Nat) (K:Cont):Prop:=
Qo a0 fun v5=>
Qe v5 fun l6 o6=>
kSt g l6 (o6+0+12) (.int .i64 0) fun g1=>
Qo a0 fun v8=>
Qe v8 fun l9 o9=>
kSt g1 l9 (o9+0+13) (.int .i64 0) fun g2=>
Qo a0 fun v11=>
Qe v11 fun l12 o12=>
kSt g2 l12 (o12+0+14) (.int .u8 0) fun g3=>
Qc K (.tuple #[]) g3 n
theorem Qch (C:CT) (a0:Value) (g:G) (n:Nat) (K:Cont):JbW C a0 g n K=Zg Tryz.prog C JV [a0] g n K:=by kernel_rfl
def ZbU (C:CT) (a0 a1:Value) (g:G) (n:Nat) (K:Cont):Prop:=
Qo a0 fun v5=>
Qe v5 fun l6 o6=>
kLd g l6 (o6+0+11) fun v8=>
C Jp [a1] g n fun v10 g1 n10=>
(Qe (ptr l6 (o6+0+11)) fun l _=>g1 l=g l)∧Xb .int .or v8 v10 fun v11=>
Qo a0 fun v12=>
Qe v12 fun l13 o13=>
kSt g1 l13 (o13+0+11) v11 fun g2=>
C QF [a0,a1,.int .i64 8] g2 n10 fun v17 g3 n17=>
Qc K (.tuple #[]) g3 n17
theorem Zcj (C:CT) (a0 a1:Value) (g:G) (n:Nat) (K:Cont):ZbU C a0 a1 g n K=Zg Tryz.prog C XW [a0,a1] g n K:=by kernel_rfl
def Xcd (C:CT) (a0 a1 a2:Value) (g:G) (n:Nat) (K:Cont):Prop:=
Qo a0 fun v9=>
Qe v9 fun l10 o10=>
kSt g l10 (o10+0+10) a1 fun g1=>
Qo a0 fun v12=>
Qe v12 fun l13 o13=>
kSt g1 l13 (o13+0+11) (.int .u8 0) fun g2=>
C QF [a0,a1,a2] g2 n fun v18 g3 n18=>
Qc K (.tuple #[]) g3 n18
theorem JcB (C:CT) (a0 a1 a2:Value) (g:G) (n:Nat) (K:Cont):Xcd C a0 a1 a2 g n K=Zg Tryz.prog C JO [a0,a1,a2] g n K:=by kernel_rfl
def ZcH (C:CT) (a0 a1:Value) (g:G) (n:Nat) (K:Cont):Prop:=
Xb .int .neq a0 (.int .i64 1) fun v7=>
Qa v7 (
Xb .int .neq a0 (.int .i64 2) fun v10=>
Qa v10 (
Xb .int .neq a0 (.int .i64 4) fun v14=>
Qa v14 (
Xb .int .neq a0 (.int .i64 8) fun v18=>
Qa v18 (
Qc K (.tuple #[.pointer none,.int .i64 1]) g n) (
Xb .int .lss a1 (.int .i64 1) fun v22=>
Qa v22 (
Qc K (.tuple #[.pointer none,.int .i64 1]) g n) (
Xb .int .gtr a1 (.int .i64 8) fun v26=>
Qa v26 (
Qc K (.tuple #[.pointer none,.int .i64 1]) g n) (
Xb .int .mul a0 a1 fun v32=>
QbK v32 v32 [.int .i64 0,.int .i64 0,.int .u64 0,.int .u64 0,.int .u64 0,.int .u64 0,.int .u64 0,.int .u64 0,.int .u64 0,.int .u64 0,.int .i64 0] 88 g n fun v33 g1 n33=>
Xk [.int .i64 0,.int .i64 0,.slice none 0 0,.int .i64 0] [(0,none,a0),(1,none,a1),(2,none,v33)] fun c34=>
Jl (.agg c34.toArray) fun c35=>
Zw c35 .exact g1 n33 fun l35 g2 n35=>
Qc K (.tuple #[ptr l35 0,.int .i64 0]) g2 n35)))) (
Xb .int .lss a1 (.int .i64 1) fun v22=>
Qa v22 (
Qc K (.tuple #[.pointer none,.int .i64 1]) g n) (
Xb .int .gtr a1 (.int .i64 8) fun v26=>
Qa v26 (
Qc K (.tuple #[.pointer none,.int .i64 1]) g n) (
Xb .int .mul a0 a1 fun v32=>
QbK v32 v32 [.int .i64 0,.int .i64 0,.int .u64 0,.int .u64 0,.int .u64 0,.int .u64 0,.int .u64 0,.int .u64 0,.int .u64 0,.int .u64 0,.int .i64 0] 88 g n fun v33 g3 n33=>
Xk [.int .i64 0,.int .i64 0,.slice none 0 0,.int .i64 0] [(0,none,a0),(1,none,a1),(2,none,v33)] fun c34=>
Jl (.agg c34.toArray) fun c35=>
Zw c35 .exact g3 n33 fun l35 g4 n35=>
Qc K (.tuple #[ptr l35 0,.int .i64 0]) g4 n35)))) (
Xb .int .lss a1 (.int .i64 1) fun v22=>
Qa v22 (
Qc K (.tuple #[.pointer none,.int .i64 1]) g n) (
Xb .int .gtr a1 (.int .i64 8) fun v26=>
Qa v26 (
Qc K (.tuple #[.pointer none,.int .i64 1]) g n) (
Xb .int .mul a0 a1 fun v32=>
QbK v32 v32 [.int .i64 0,.int .i64 0,.int .u64 0,.int .u64 0,.int .u64 0,.int .u64 0,.int .u64 0,.int .u64 0,.int .u64 0,.int .u64 0,.int .i64 0] 88 g n fun v33 g5 n33=>
Xk [.int .i64 0,.int .i64 0,.slice none 0 0,.int .i64 0] [(0,none,a0),(1,none,a1),(2,none,v33)] fun c34=>
Jl (.agg c34.toArray) fun c35=>
Zw c35 .exact g5 n33 fun l35 g6 n35=>
Qc K (.tuple #[ptr l35 0,.int .i64 0]) g6 n35)))) (
Xb .int .lss a1 (.int .i64 1) fun v22=>
Qa v22 (
Qc K (.tuple #[.pointer none,.int .i64 1]) g n) (
Xb .int .gtr a1 (.int .i64 8) fun v26=>
Qa v26 (
Qc K (.tuple #[.pointer none,.int .i64 1]) g n) (
Xb .int .mul a0 a1 fun v32=>
QbK v32 v32 [.int .i64 0,.int .i64 0,.int .u64 0,.int .u64 0,.int .u64 0,.int .u64 0,.int .u64 0,.int .u64 0,.int .u64 0,.int .u64 0,.int .i64 0] 88 g n fun v33 g7 n33=>
Xk [.int .i64 0,.int .i64 0,.slice none 0 0,.int .i64 0] [(0,none,a0),(1,none,a1),(2,none,v33)] fun c34=>
Jl (.agg c34.toArray) fun c35=>
Zw c35 .exact g7 n33 fun l35 g8 n35=>
Qc K (.tuple #[ptr l35 0,.int .i64 0]) g8 n35)))
theorem Qdt (C:CT) (a0 a1:Value) (g:G) (n:Nat) (K:Cont):ZcH C a0 a1 g n K=Zg Tryz.prog C Xbl [a0,a1] g n K:=by kernel_rfl
def Xa8 (C:CT) (a0 a1:Value) (g:G) (n:Nat) (K:Cont):Prop:=
Zw [.int .i64 0,.int .i64 0,.int .u64 0,.int .u64 0,.int .u64 0,.int .u64 0,.int .u64 0,.int .u64 0,.int .u64 0,.int .u64 0,.int .i64 0] .exact g n fun l4 g1 n4=>
C XH [a0,a1] g1 n4 fun v9 g2 n9=>
Xb .int .lss v9 (.int .i64 0) fun v11=>
Qa v11 (
Xk [.int .i64 0,.int .i64 0,.int .u64 0,.int .u64 0,.int .u64 0,.int .u64 0,.int .u64 0,.int .u64 0,.int .u64 0,.int .u64 0,.int .i64 0] [] fun c12=>
Jl (.agg c12.toArray) fun cg3=>
cg3.length=11∧Xw g2 l4 0 cg3 fun g3=>
Zn g3 l4 0 11 fun r0=>
Qc K (.tuple #[.agg r0.toArray,.bool false]) g3 n9) (
C Jt [a0,a1] g2 n9 fun v15 g4 n15=>
Jc v15 v9 11 fun v17=>
Qe v17 fun l18 o18=>
Zn g4 l18 o18 11 fun c18=>
Jl (.agg c18.toArray) fun cg5=>
cg5.length=11∧Xw g4 l4 0 cg5 fun g5=>
Zn g5 l4 0 11 fun r0=>
Qc K (.tuple #[.agg r0.toArray,.bool true]) g5 n15)
theorem QbE (C:CT) (a0 a1:Value) (g:G) (n:Nat) (K:Cont):Xa8 C a0 a1 g n K=Zg Tryz.prog C Xai [a0,a1] g n K:=by kernel_rfl
def Zbz (C:CT) (a0 a1:Value) (g:G) (n:Nat) (K:Cont):Prop:=
isCell a1=true∧Zw [a1] .exact g n fun l3 g1 n3=>
Xb .ptr .eql a0 (.pointer none) fun v6=>
Qa v6 (
Qc K (.int .i64 (-1)) g1 n3) (
kLd g1 l3 0 fun v8=>
Xb .int .lss v8 (.int .i64 0) fun v9=>
Qa v9 (
Qc K (.int .i64 (-1)) g1 n3) (
kLd g1 l3 0 fun v12=>
C Jt [a0,v12] g1 n3 fun v13 g2 n13=>
C Xf [v13,(.func (.func Xaj) #[] #[ptr l3 0])] g2 n13 fun v15 g3 n15=>
Qc K v15 g3 n15))
theorem Jb6 (C:CT) (a0 a1:Value) (g:G) (n:Nat) (K:Cont):Zbz C a0 a1 g n K=Zg Tryz.prog C XH [a0,a1] g n K:=by kernel_rfl
def QaJ (C:CT) (a0:Value) (g:G) (n:Nat) (K:Cont):Prop:=
Qo a0 fun v4=>
Qe v4 fun l5 o5=>
kLd g l5 (o5+3) fun v6=>
Xb .int .add v6 (.int .i64 1) fun v7=>
Qo a0 fun v8=>
Qe v8 fun l9 o9=>
kSt g l9 (o9+3) v7 fun g1=>
Qo a0 fun v11=>
Qe v11 fun l12 o12=>
kLd g1 l12 (o12+3) fun v13=>
Qc K v13 g1 n
theorem Jbd (C:CT) (a0:Value) (g:G) (n:Nat) (K:Cont):QaJ C a0 g n K=Zg Tryz.prog C ZM [a0] g n K:=by kernel_rfl
def Jbk (C:CT) (a0 a1:Value) (g:G) (n:Nat) (K:Cont):Prop:=
Qo a0 fun v7=>
Qe v7 fun l8 o8=>
kLd g l8 (o8+0) fun v9=>
Qo a0 fun v13=>
Qe v13 fun l14 o14=>
kLd g l14 (o14+1) fun v15=>
C QbD [v9,a1] g n fun v11 g1 n11=>
(Qe (ptr l14 (o14+1)) fun l _=>g1 l=g l)∧Xb .int .mul v11 v15 fun v16=>
Qo a0 fun v18=>
Qe v18 fun l19 o19=>
kLd g1 l19 (o19+2) fun v20=>
Qo a0 fun v24=>
Qe v24 fun l25 o25=>
kLd g1 l25 (o25+1) fun v26=>
Xb .int .add v16 v26 fun v27=>
Qo a0 fun v30=>
Qe v30 fun l31 o31=>
kLd g1 l31 (o31+1) fun v32=>
Xb .int .add v16 v32 fun v33=>
Xu v20 (some v16) (some v27) (some v33) 11 fun v34=>
Qc K v34 g1 n11
theorem JbX (C:CT) (a0 a1:Value) (g:G) (n:Nat) (K:Cont):Jbk C a0 a1 g n K=Zg Tryz.prog C Jt [a0,a1] g n K:=by kernel_rfl
def ZJ (C:CT) (K:Cont) (I_l1:Qn) (t:Env) (g:G) (n:Nat):Prop:=
Qa (t 27) (
Xb .int .lss (t 5) (.int .i64 0) fun v32=>
Qa v32 (
Qe (t 8) fun l39 o39=>
kLd g l39 (o39+1) fun v40=>
Qe (t 8) fun l41 o41=>
kLd g l41 (o41+10) fun v42=>
Xb .int .add (t 19) (.int .i64 1) fun v43=>
I_l1 (puts t [(31,t 5),(32,v32),(33,.bool true),(34,undef),(35,undef),(36,undef),(37,undef),(38,.bool true),(39,(ptr l39 (o39+1))),(40,v40),(41,(ptr l41 (o41+10))),(42,v42),(5,v40),(6,v42),(43,v43),(19,v43)]) g n) (
Qe (t 8) fun l34 o34=>
kLd g l34 (o34+10) fun v35=>
Xb .int .lss v35 (t 6) fun v37=>
Qa v37 (
Qe (t 8) fun l39 o39=>
kLd g l39 (o39+1) fun v40=>
Qe (t 8) fun l41 o41=>
kLd g l41 (o41+10) fun v42=>
Xb .int .add (t 19) (.int .i64 1) fun v43=>
I_l1 (puts t [(31,t 5),(32,v32),(33,.bool false),(34,(ptr l34 (o34+10))),(35,v35),(36,t 6),(37,v37),(38,v37),(39,(ptr l39 (o39+1))),(40,v40),(41,(ptr l41 (o41+10))),(42,v42),(5,v40),(6,v42),(43,v43),(19,v43)]) g n) (
Xb .int .add (t 19) (.int .i64 1) fun v43=>
I_l1 (puts t [(31,t 5),(32,v32),(33,.bool false),(34,(ptr l34 (o34+10))),(35,v35),(36,t 6),(37,v37),(38,v37),(43,v43),(19,v43)]) g n))) (
Xb .int .add (t 19) (.int .i64 1) fun v43=>
I_l1 (puts t [(43,v43),(19,v43)]) g n)
def QaD (C:CT) (K:Cont) (t:Env) (g:G) (n:Nat):Prop:=
Qc K (.tuple #[.bool false,t 5]) g n
def XaD (C:CT) (K:Cont) (I_l1:Qn) (t:Env) (g:G) (n:Nat):Prop:=
Xb .int .lss (t 19) (t 18) fun v20=>
Qa v20 (
Jc (t 17) (t 19) 11 fun v21=>
Qe v21 fun l22 o22=>
Zn g l22 o22 11 fun c22=>
Zw [.int .i64 0,.int .i64 0,.int .u64 0,.int .u64 0,.int .u64 0,.int .u64 0,.int .u64 0,.int .u64 0,.int .u64 0,.int .u64 0,.int .i64 0] .exact g n fun l8 g2 n8=>
Jl (.agg c22.toArray) fun cg3=>
cg3.length=11∧Xw g2 l8 0 cg3 fun g3=>
kLd g3 l8 (0+0) fun v24=>
Xb .int .eql v24 (.int .i64 0) fun v26=>
Qa v26 (
Qc K (.tuple #[.bool true,(.int .i64 (-1))]) g3 n8) (
Xb .int .eql v24 (.int .i64 1) fun v28=>
Qa v28 (
ZJ C K I_l1 (puts t [(20,v20),(21,v21),(22,.agg c22.toArray),(8,ptr l8 0),(23,(ptr l8 (0+0))),(24,v24),(26,v26),(25,v26),(28,v28),(27,v28)]) g3 n8) (
Xb .int .eql v24 (.int .i64 2) fun v29=>
Qa v29 (
ZJ C K I_l1 (puts t [(20,v20),(21,v21),(22,.agg c22.toArray),(8,ptr l8 0),(23,(ptr l8 (0+0))),(24,v24),(26,v26),(25,v26),(28,v28),(27,v28),(29,v29),(27,v29)]) g3 n8) (
Xb .int .eql v24 (.int .i64 3) fun v30=>
ZJ C K I_l1 (puts t [(20,v20),(21,v21),(22,.agg c22.toArray),(8,ptr l8 0),(23,(ptr l8 (0+0))),(24,v24),(26,v26),(25,v26),(28,v28),(27,v28),(29,v29),(27,v29),(30,v30),(27,v30)]) g3 n8)))) (
QaD C K (puts t [(20,v20)]) g n)
def Za7 (C:CT) (a0 a1:Value) (g:G) (n:Nat) (K:Cont):Prop:=
Xb .ptr .eql a0 (.pointer none) fun v10=>
Qa v10 (
Qc K (.tuple #[.bool false,(.int .i64 (-1))]) g n) (
Xb .int .lss a1 (.int .i64 0) fun v13=>
Qa v13 (
Qc K (.tuple #[.bool false,(.int .i64 (-1))]) g n) (
C Jt [a0,a1] g n fun v17 g1 n17=>
ZaH v17 fun v18=>
lfp (XaD C K) (puts (Qq [a0,a1]) [(4,.bool false),(5,.int .i64 0),(9,a0),(10,v10),(11,.bool false),(12,a1),(13,v13),(14,v13),(5,(.int .i64 (-1))),(6,.int .i64 0),(15,a0),(16,a1),(17,v17),(18,v18),(19,.int .i64 0)]) g1 n17))
theorem JbK (C:CT) (a0 a1:Value) (g:G) (n:Nat) (K:Cont):Za7 C a0 a1 g n K=Zg Tryz.prog C Jag [a0,a1] g n K:=by kernel_rfl
def Zaf (C:CT) (K:Cont) (t:Env) (g:G) (n:Nat):Prop:=
Qo (t 0) fun v26=>
Qe v26 fun l27 o27=>
kLd g l27 (o27+16) fun v28=>
Qe (t 6) fun l30 o30=>
Zn g l30 o30 12 fun c30=>
Xk [.int .i64 0,.int .i64 0,.int .i64 0,.bool false,.bool false,.int .u64 0,.int .u64 0,.int .u64 0,.int .u64 0,.int .u64 0,.int .u64 0,.int .u64 0,.int .u64 0] [(0,none,t 1),(1,some 12,.agg c30.toArray)] fun c31=>
Xk (reps 1 [.int .i64 0,.int .i64 0,.int .i64 0,.bool false,.bool false,.int .u64 0,.int .u64 0,.int .u64 0,.int .u64 0,.int .u64 0,.int .u64 0,.int .u64 0,.int .u64 0]) [(0,some 13,.agg c31.toArray)] fun c32=>
Zw c32 .exact g n fun l32 g4 n32=>
(Qe (ptr l27 (o27+16)) fun l _=>g4 l=g l)∧Q5 v28 (.slice (some ⟨l32,0,none⟩) 1 1) 13 96 g4 n32 fun v33 g5 n33=>
Qo (t 0) fun v34=>
Qe v34 fun l35 o35=>
kSt g5 l35 (o35+16) v33 fun g6=>
Qc K (.tuple #[]) g6 n33
def ZW (C:CT) (K:Cont) (t:Env) (g:G) (n:Nat):Prop:=
Qa (t 14) (
Qo (t 0) fun v19=>
Qe v19 fun l20 o20=>
Zn g l20 (o20+0+2) 8 fun c22=>
Qe (t 6) fun l23 o23=>
Jl (.agg c22.toArray) fun cg3=>
cg3.length=8∧Xw g l23 (o23+4) cg3 fun g3=>
Zaf C K (puts t [(18,t 0),(19,v19),(20,(ptr l20 (o20+0))),(21,(ptr l20 (o20+0+2))),(22,.agg c22.toArray),(23,(ptr l23 (o23+4)))]) g3 n) (
Zaf C K t g n)
def JbQ (C:CT) (a0 a1 a2:Value) (g:G) (n:Nat) (K:Cont):Prop:=
Qo a0 fun v9=>
Qe v9 fun l10 o10=>
kLd g l10 (o10+15) fun v11=>
Xk [.int .i64 0,.int .i64 0,.bool false,.bool false,.int .u64 0,.int .u64 0,.int .u64 0,.int .u64 0,.int .u64 0,.int .u64 0,.int .u64 0,.int .u64 0] [(0,none,a2),(1,none,v11)] fun c12=>
Zw [.int .i64 0,.int .i64 0,.bool false,.bool false,.int .u64 0,.int .u64 0,.int .u64 0,.int .u64 0,.int .u64 0,.int .u64 0,.int .u64 0,.int .u64 0] .exact g n fun l6 g1 n6=>
Jl (.agg c12.toArray) fun cg2=>
cg2.length=12∧Xw g1 l6 0 cg2 fun g2=>
Xb .int .eql a2 (.int .i64 8) fun v15=>
Qa v15 (
ZW C K (puts (Qq [a0,a1,a2]) [(7,a2),(8,a0),(9,v9),(10,(ptr l10 (o10+15))),(11,v11),(12,.agg c12.toArray),(6,ptr l6 0),(13,a2),(15,v15),(14,v15)]) g2 n6) (
Xb .int .eql a2 (.int .i64 9) fun v16=>
Qa v16 (
ZW C K (puts (Qq [a0,a1,a2]) [(7,a2),(8,a0),(9,v9),(10,(ptr l10 (o10+15))),(11,v11),(12,.agg c12.toArray),(6,ptr l6 0),(13,a2),(15,v15),(14,v15),(16,v16),(14,v16)]) g2 n6) (
Xb .int .eql a2 (.int .i64 10) fun v17=>
ZW C K (puts (Qq [a0,a1,a2]) [(7,a2),(8,a0),(9,v9),(10,(ptr l10 (o10+15))),(11,v11),(12,.agg c12.toArray),(6,ptr l6 0),(13,a2),(15,v15),(14,v15),(16,v16),(14,v16),(17,v17),(14,v17)]) g2 n6))
theorem Zci (C:CT) (a0 a1 a2:Value) (g:G) (n:Nat) (K:Cont):JbQ C a0 a1 a2 g n K=Zg Tryz.prog C QF [a0,a1,a2] g n K:=by kernel_rfl
def XC (C:CT) (K:Cont) (I_l1:Qn) (t:Env) (g:G) (n:Nat):Prop:=
Xb .int .lss (t 8) (t 7) fun v9=>
Qa v9 (
Jc (t 0) (t 8) 9 fun v14=>
Qe v14 fun l15 o15=>
Zn g l15 o15 9 fun c15=>
Zbl C (t 1) [.agg c15.toArray] g n fun v16 g1 n16=>
Qa v16 (
Qc K (t 8) g1 n16) (
Xb .int .add (t 8) (.int .i64 1) fun v18=>
I_l1 (puts t [(9,v9),(10,t 8),(5,t 8),(11,t 1),(12,t 0),(13,t 8),(14,v14),(15,.agg c15.toArray),(16,v16),(18,v18),(8,v18)]) g1 n16)) (
Qc K (.int .i64 (-1)) g n)
def QH (C:CT) (a0 a1:Value) (g:G) (n:Nat) (K:Cont):Prop:=
ZaH a0 fun v7=>
lfp (XC C K) (puts (Qq [a0,a1]) [(4,.int .i64 0),(6,a0),(7,v7),(8,.int .i64 0)]) g n
theorem J5 (C:CT) (a0 a1:Value) (g:G) (n:Nat) (K:Cont):QH C a0 a1 g n K=Zg Tryz.prog C Zr [a0,a1] g n K:=by kernel_rfl
def ZaR (C:CT) (a0 a1:Value) (g:G) (n:Nat) (K:Cont):Prop:=
Jl a0 fun c2=>
Zw c2 .exact g n fun l2 g1 n2=>
kLd g1 l2 (0+0) fun v5=>
Qe a1 fun l6 o6=>
kLd g1 l6 o6 fun v6=>
Xb .int .eql v5 v6 fun v7=>
Qc K v7 g1 n2
theorem Zbx (C:CT) (a0 a1:Value) (g:G) (n:Nat) (K:Cont):ZaR C a0 a1 g n K=Zg Tryz.prog C Qt [a0,a1] g n K:=by kernel_rfl
def Qa6 (C:CT) (a0 a1 a2:Value) (g:G) (n:Nat) (K:Cont):Prop:=
Jl a2 fun c5=>
Zw c5 .exact g n fun l5 g1 n5=>
C XQ [a0,a1] g1 n5 fun v10 g2 n10=>
Xb .int .neq v10 (.int .i64 0) fun v12=>
Qa v12 (
Qc K v10 g2 n10) (
Qo a0 fun v15=>
Qe v15 fun l16 o16=>
C Jv [(ptr l16 (o16+3)),.int .i64 1] g2 n10 fun v17 g3 n17=>
Qo a0 fun v19=>
Qe v19 fun l20 o20=>
kLd g3 l20 (o20+0) fun v21=>
Zn g3 l5 0 8 fun c23=>
Jc v21 a1 8 fun v24=>
Qe v24 fun lg4 og4=>
Jl (.agg c23.toArray) fun cg4=>
cg4.length=8∧Xw g3 lg4 og4 cg4 fun g4=>
Qc K (.int .i64 0) g4 n17)
theorem JbH (C:CT) (a0 a1 a2:Value) (g:G) (n:Nat) (K:Cont):Qa6 C a0 a1 a2 g n K=Zg Tryz.prog C Qaj [a0,a1,a2] g n K:=by kernel_rfl
def JR (C:CT) (a0:Value) (g:G) (n:Nat) (K:Cont):Prop:=
Xb .slice .eql a0 (.slice none 0 0) fun v4=>
Qa v4 (
Qc K (.slice none 0 0) g n) (
Xk (reps 0 [.int .u64 0,.int .u64 0,.int .u64 0,.int .u64 0,.int .u64 0,.int .u64 0,.int .u64 0,.int .u64 0]) [] fun c5=>
Zw c5 .exact g n fun l5 g1 n5=>
Q5 (.slice (some ⟨l5,0,none⟩) 0 0) a0 8 64 g1 n5 fun v7 g2 n7=>
Qc K v7 g2 n7)
theorem Zal (C:CT) (a0:Value) (g:G) (n:Nat) (K:Cont):JR C a0 g n K=Zg Tryz.prog C Qx [a0] g n K:=by kernel_rfl
def Qbe (C:CT) (a0 a1:Value) (g:G) (n:Nat) (K:Cont):Prop:=
Zw [.int .u64 0,.int .u64 0,.int .u64 0,.int .u64 0,.int .u64 0,.int .u64 0,.int .u64 0,.int .u64 0] .exact g n fun l4 g1 n4=>
C XQ [a0,a1] g1 n4 fun v9 g2 n9=>
Xb .int .neq v9 (.int .i64 0) fun v11=>
Qa v11 (
Xk [.int .u64 0,.int .u64 0,.int .u64 0,.int .u64 0,.int .u64 0,.int .u64 0,.int .u64 0,.int .u64 0] [] fun c12=>
Jl (.agg c12.toArray) fun cg3=>
cg3.length=8∧Xw g2 l4 0 cg3 fun g3=>
Zn g3 l4 0 8 fun r0=>
Qc K (.tuple #[.agg r0.toArray,v9]) g3 n9) (
Qo a0 fun v15=>
Qe v15 fun l16 o16=>
C Jv [(ptr l16 (o16+2)),.int .i64 1] g2 n9 fun v17 g4 n17=>
Qo a0 fun v19=>
Qe v19 fun l20 o20=>
kLd g4 l20 (o20+0) fun v21=>
Jc v21 a1 8 fun v23=>
Qe v23 fun l24 o24=>
Zn g4 l24 o24 8 fun c24=>
Jl (.agg c24.toArray) fun cg5=>
cg5.length=8∧Xw g4 l4 0 cg5 fun g5=>
Zn g5 l4 0 8 fun r0=>
Qc K (.tuple #[.agg r0.toArray,.int .i64 0]) g5 n17)
theorem QbV (C:CT) (a0 a1:Value) (g:G) (n:Nat) (K:Cont):Qbe C a0 a1 g n K=Zg Tryz.prog C Zaq [a0,a1] g n K:=by kernel_rfl
def QA (C:CT) (a0 a1:Value) (g:G) (n:Nat) (K:Cont):Prop:=
C Xf [a0,a1] g n fun v7 g1 n7=>
Xb .int .geq v7 (.int .i64 0) fun v8=>
Qc K v8 g1 n7
theorem XR (C:CT) (a0 a1:Value) (g:G) (n:Nat) (K:Cont):QA C a0 a1 g n K=Zg Tryz.prog C Jw [a0,a1] g n K:=by kernel_rfl
def ZaK (C:CT) (a0:Value) (g:G) (n:Nat) (K:Cont):Prop:=
Jl a0 fun c1=>
Zw c1 .exact g n fun l1 g1 n1=>
kLd g1 l1 (0+0) fun v4=>
C XaM [v4] g1 n1 fun v5 g2 n5=>
kUn .not v5 fun v6=>
Qc K v6 g2 n5
theorem Qbi (C:CT) (a0:Value) (g:G) (n:Nat) (K:Cont):ZaK C a0 g n K=Zg Tryz.prog C X4 [a0] g n K:=by kernel_rfl
def JcK (C:CT) (a0:Value) (g:G) (n:Nat) (K:Cont):Prop:=
Xb .int .geq a0 (.int .i64 0) fun v4=>
Qa v4 (
Xb .int .leq a0 (.int .i64 3) fun v7=>
Qc K v7 g n) (
Qc K (.bool false) g n)
theorem JcO (C:CT) (a0:Value) (g:G) (n:Nat) (K:Cont):JcK C a0 g n K=Zg Tryz.prog C XaM [a0] g n K:=by kernel_rfl
def Qj (C:CT) (K:Cont) (I_l1:Qn) (t:Env) (g:G) (n:Nat):Prop:=
Xb .int .add (t 6) (.int .i64 1) fun v21=>
I_l1 (puts t [(20,t 6),(21,v21),(6,v21)]) g n
def Zz (C:CT) (K:Cont) (t:Env) (g:G) (n:Nat):Prop:=
Xu (t 0) (some (t 5)) none none 11 fun v38=>
Jav v38 [.int .i64 0,.int .i64 0,.int .u64 0,.int .u64 0,.int .u64 0,.int .u64 0,.int .u64 0,.int .u64 0,.int .u64 0,.int .u64 0,.int .i64 0] g fun v_ g6=>
Xu (t 0) none (some (t 5)) none 11 fun v41=>
Qc K v41 g6 n
def Jy (C:CT) (K:Cont) (I_l1:Qn) (t:Env) (g:G) (n:Nat):Prop:=
ZaH (t 0) fun v18=>
Xb .int .lss (t 6) v18 fun v19=>
Qa v19 (
Jc (t 0) (t 6) 11 fun v24=>
Qe v24 fun l25 o25=>
Zn g l25 o25 11 fun c25=>
Zw [.int .i64 0,.int .i64 0,.int .u64 0,.int .u64 0,.int .u64 0,.int .u64 0,.int .u64 0,.int .u64 0,.int .u64 0,.int .u64 0,.int .i64 0] .exact g n fun l7 g2 n7=>
Jl (.agg c25.toArray) fun cg3=>
cg3.length=11∧Xw g2 l7 0 cg3 fun g3=>
Zn g3 l7 0 11 fun c27=>
Zbl C (t 1) [.agg c27.toArray] g3 n7 fun v28 g4 n28=>
kUn .not v28 fun v29=>
Qa v29 (
Zn g4 l7 0 11 fun c32=>
Jc (t 0) (t 5) 11 fun v33=>
Qe v33 fun lg5 og5=>
Jl (.agg c32.toArray) fun cg5=>
cg5.length=11∧Xw g4 lg5 og5 cg5 fun g5=>
Xb .int .add (t 5) (.int .i64 1) fun v35=>
Qj C K I_l1 (puts t [(16,t 6),(17,t 0),(18,v18),(19,v19),(22,t 0),(23,t 6),(24,v24),(25,.agg c25.toArray),(7,ptr l7 0),(26,t 1),(27,.agg c27.toArray),(28,v28),(29,v29),(30,t 0),(31,t 5),(32,.agg c32.toArray),(33,v33),(34,t 5),(35,v35),(5,v35)]) g5 n28) (
Qj C K I_l1 (puts t [(16,t 6),(17,t 0),(18,v18),(19,v19),(22,t 0),(23,t 6),(24,v24),(25,.agg c25.toArray),(7,ptr l7 0),(26,t 1),(27,.agg c27.toArray),(28,v28),(29,v29)]) g4 n28)) (
Zz C K (puts t [(16,t 6),(17,t 0),(18,v18),(19,v19)]) g n)
def QD (C:CT) (a0 a1:Value) (g:G) (n:Nat) (K:Cont):Prop:=
C Xf [a0,a1] g n fun v10 g1 n10=>
Xb .int .eql v10 (.int .i64 (-1)) fun v12=>
Qa v12 (
Qc K a0 g1 n10) (
Xb .int .add v10 (.int .i64 1) fun v15=>
lfp (Jy C K) (puts (Qq [a0,a1]) [(4,.slice none 0 0),(8,a0),(9,a1),(10,v10),(5,v10),(11,v10),(12,v12),(14,v10),(15,v15),(6,v15)]) g1 n10)
theorem JW (C:CT) (a0 a1:Value) (g:G) (n:Nat) (K:Cont):QD C a0 a1 g n K=Zg Tryz.prog C Xo [a0,a1] g n K:=by kernel_rfl
def JK (C:CT) (a0:Value) (g:G) (n:Nat) (K:Cont):Prop:=
Xb .slice .eql a0 (.slice none 0 0) fun v4=>
Qa v4 (
Qc K (.slice none 0 0) g n) (
Xk (reps 0 [.int .i64 0,.int .i64 0,.int .u64 0,.int .u64 0,.int .u64 0,.int .u64 0,.int .u64 0,.int .u64 0,.int .u64 0,.int .u64 0,.int .i64 0]) [] fun c5=>
Zw c5 .exact g n fun l5 g1 n5=>
Q5 (.slice (some ⟨l5,0,none⟩) 0 0) a0 11 88 g1 n5 fun v7 g2 n7=>
Qc K v7 g2 n7)
theorem Jac (C:CT) (a0:Value) (g:G) (n:Nat) (K:Cont):JK C a0 g n K=Zg Tryz.prog C Js [a0] g n K:=by kernel_rfl
def QcK (C:CT) (a0:Value) (g:G) (n:Nat) (K:Cont):Prop:=
Jl a0 fun c1=>
Zw c1 .exact g n fun l1 g1 n1=>
kLd g1 l1 (0+0) fun v4=>
Xb .int .eql v4 (.int .i64 0) fun v5=>
Qc K v5 g1 n1
theorem ZcM (C:CT) (a0:Value) (g:G) (n:Nat) (K:Cont):QcK C a0 g n K=Zg Tryz.prog C Qau [a0] g n K:=by kernel_rfl
def ZA (C:CT) (K:Cont) (I_l1:Qn) (t:Env) (g:G) (n:Nat):Prop:=
Xb .int .lss (t 8) (t 7) fun v9=>
Qa v9 (
Jc (t 0) (t 8) 11 fun v14=>
Qe v14 fun l15 o15=>
Zn g l15 o15 11 fun c15=>
Zbl C (t 1) [.agg c15.toArray] g n fun v16 g1 n16=>
Qa v16 (
Qc K (t 8) g1 n16) (
Xb .int .add (t 8) (.int .i64 1) fun v18=>
I_l1 (puts t [(9,v9),(10,t 8),(5,t 8),(11,t 1),(12,t 0),(13,t 8),(14,v14),(15,.agg c15.toArray),(16,v16),(18,v18),(8,v18)]) g1 n16)) (
Qc K (.int .i64 (-1)) g n)
def XE (C:CT) (a0 a1:Value) (g:G) (n:Nat) (K:Cont):Prop:=
ZaH a0 fun v7=>
lfp (ZA C K) (puts (Qq [a0,a1]) [(4,.int .i64 0),(6,a0),(7,v7),(8,.int .i64 0)]) g n
theorem XY (C:CT) (a0 a1:Value) (g:G) (n:Nat) (K:Cont):XE C a0 a1 g n K=Zg Tryz.prog C Xf [a0,a1] g n K:=by kernel_rfl
def XbT (C:CT) (a0 a1 a2:Value) (g:G) (n:Nat) (K:Cont):Prop:=
Jl a2 fun c5=>
Zw c5 .exact g n fun l5 g1 n5=>
Qo a0 fun v8=>
Qe v8 fun l9 o9=>
kLd g1 l9 (o9+0+10) fun v11=>
Xb .int .geq v11 (.int .i64 0) fun v17=>
Qa v17 (
Xb .int .neq v11 a1 fun v21=>
Qa v21 (
C Jp [v11] g1 n5 fun v26 g2 n26=>
C QL [a0,.int .i64 1,a1,v26,.int .i64 13] g2 n26 fun v27 g3 n27=>
Qc K (.tuple #[]) g3 n27) (
Qo a0 fun v30=>
Qe v30 fun l31 o31=>
kLd g1 l31 (o31+0+11) fun v33=>
Xb .int .eql v33 (.int .u8 0) fun v34=>
Qa v34 (
C JO [a0,a1,.int .i64 9] g1 n5 fun v37 g4 n37=>
Qc K (.tuple #[]) g4 n37) (
C XW [a0,a1] g1 n5 fun v14 g5 n14=>
Qc K (.tuple #[]) g5 n14))) (
Qo a0 fun v30=>
Qe v30 fun l31 o31=>
kLd g1 l31 (o31+0+11) fun v33=>
Xb .int .eql v33 (.int .u8 0) fun v34=>
Qa v34 (
C JO [a0,a1,.int .i64 9] g1 n5 fun v37 g6 n37=>
Qc K (.tuple #[]) g6 n37) (
C XW [a0,a1] g1 n5 fun v14 g7 n14=>
Qc K (.tuple #[]) g7 n14))
theorem Xci (C:CT) (a0 a1 a2:Value) (g:G) (n:Nat) (K:Cont):XbT C a0 a1 a2 g n K=Zg Tryz.prog C Xae [a0,a1,a2] g n K:=by kernel_rfl
def ZbO (C:CT) (a0 a1 a2:Value) (g:G) (n:Nat) (K:Cont):Prop:=
Jl a2 fun c5=>
Zw c5 .exact g n fun l5 g1 n5=>
C JU [a0] g1 n5 fun v8 g2 n8=>
C Jp [a1] g2 n8 fun v10 g3 n10=>
Xb .int .andNot v8 v10 fun v11=>
Xb .int .eql v11 (.int .u8 0) fun v13=>
Qa v13 (
C JO [a0,a1,.int .i64 10] g3 n10 fun v16 g4 n16=>
Qc K (.tuple #[]) g4 n16) (
C QL [a0,.int .i64 2,a1,v11,.int .i64 12] g3 n10 fun v20 g5 n20=>
Qc K (.tuple #[]) g5 n20)
theorem Zch (C:CT) (a0 a1 a2:Value) (g:G) (n:Nat) (K:Cont):ZbO C a0 a1 a2 g n K=Zg Tryz.prog C Jaf [a0,a1,a2] g n K:=by kernel_rfl
def Zap (C:CT) (K:Cont) (t:Env) (g:G) (n:Nat):Prop:=
C QF [t 0,t 1,.int .i64 11] g n fun v33 g4 n33=>
Qc K (.tuple #[]) g4 n33
def Zcf (C:CT) (a0 a1 a2:Value) (g:G) (n:Nat) (K:Cont):Prop:=
Jl a2 fun c5=>
Zw c5 .exact g n fun l5 g1 n5=>
Qo a0 fun v7=>
Qe v7 fun l8 o8=>
kLd g1 l8 (o8+0+10) fun v10=>
Xb .int .eql v10 a1 fun v12=>
Qa v12 (
Qo a0 fun v14=>
Qe v14 fun l15 o15=>
kSt g1 l15 (o15+0+10) (.int .i64 (-1)) fun g2=>
Zn g2 l5 0 12 fun c18=>
C Jae [a0,.agg c18.toArray] g2 n5 fun v19 g3 n19=>
Zap C K (puts (Qq [a0,a1,a2]) [(5,ptr l5 0),(6,a0),(7,v7),(8,(ptr l8 (o8+0))),(9,(ptr l8 (o8+0+10))),(10,v10),(11,a1),(12,v12),(13,a0),(14,v14),(15,(ptr l15 (o15+0))),(16,(ptr l15 (o15+0+10))),(17,a0),(18,.agg c18.toArray),(19,v19)]) g3 n19) (
Qo a0 fun v21=>
Qe v21 fun l22 o22=>
kLd g1 l22 (o22+0+11) fun v24=>
C Jp [a1] g1 n5 fun v26 g5 n26=>
(Qe (ptr l22 (o22+0+11)) fun l _=>g5 l=g1 l)∧Xb .int .andNot v24 v26 fun v27=>
Qo a0 fun v28=>
Qe v28 fun l29 o29=>
kSt g5 l29 (o29+0+11) v27 fun g6=>
Zap C K (puts (Qq [a0,a1,a2]) [(5,ptr l5 0),(6,a0),(7,v7),(8,(ptr l8 (o8+0))),(9,(ptr l8 (o8+0+10))),(10,v10),(11,a1),(12,v12),(20,a0),(21,v21),(22,(ptr l22 (o22+0))),(23,(ptr l22 (o22+0+11))),(24,v24),(25,a1),(26,v26),(27,v27),(28,v28),(29,(ptr l29 (o29+0))),(30,(ptr l29 (o29+0+11)))]) g6 n26)
theorem Xcz (C:CT) (a0 a1 a2:Value) (g:G) (n:Nat) (K:Cont):Zcf C a0 a1 a2 g n K=Zg Tryz.prog C Xan [a0,a1,a2] g n K:=by kernel_rfl
def Xby (C:CT) (a0 a1 a2:Value) (g:G) (n:Nat) (K:Cont):Prop:=
Jl a2 fun c5=>
Zw c5 .exact g n fun l5 g1 n5=>
Qo a0 fun v9=>
Qe v9 fun l10 o10=>
kLd g1 l10 (o10+0+10) fun v12=>
C Jp [v12] g1 n5 fun v13 g2 n13=>
C QL [a0,.int .i64 4,a1,v13,.int .i64 13] g2 n13 fun v14 g3 n14=>
Qc K (.tuple #[]) g3 n14
theorem Xb3 (C:CT) (a0 a1 a2:Value) (g:G) (n:Nat) (K:Cont):Xby C a0 a1 a2 g n K=Zg Tryz.prog C X8 [a0,a1,a2] g n K:=by kernel_rfl
def QbZ (C:CT) (a0 a1 a2:Value) (g:G) (n:Nat) (K:Cont):Prop:=
Jl a2 fun c5=>
Zw c5 .exact g n fun l5 g1 n5=>
C JU [a0] g1 n5 fun v9 g2 n9=>
C QL [a0,.int .i64 5,a1,v9,.int .i64 12] g2 n9 fun v10 g3 n10=>
Qc K (.tuple #[]) g3 n10
theorem Qcg (C:CT) (a0 a1 a2:Value) (g:G) (n:Nat) (K:Cont):QbZ C a0 a1 a2 g n K=Zg Tryz.prog C Zae [a0,a1,a2] g n K:=by kernel_rfl
def Ja8 (C:CT) (a0 a1:Value) (g:G) (n:Nat) (K:Cont):Prop:=
Jl a0 fun c2=>
Zw c2 .exact g n fun l2 g1 n2=>
kLd g1 l2 (0+0) fun v5=>
Xb .int .neq v5 (.int .i64 0) fun v6=>
Qa v6 (
kLd g1 l2 (0+1) fun v9=>
Qe a1 fun l10 o10=>
kLd g1 l10 o10 fun v10=>
Xb .int .eql v9 v10 fun v11=>
Qc K v11 g1 n2) (
Qc K (.bool false) g1 n2)
theorem QbB (C:CT) (a0 a1:Value) (g:G) (n:Nat) (K:Cont):Ja8 C a0 a1 g n K=Zg Tryz.prog C Xaj [a0,a1] g n K:=by kernel_rfl
def Xas (C:CT) (K:Cont) (t:Env) (g:G) (n:Nat):Prop:=
Qa (t 8) (
Xb .int .rem (t 1) (t 0) fun v15=>
Qc K v15 g n) (
Qc K (.int .i64 0) g n)
def Zef (C:CT) (a0 a1:Value) (g:G) (n:Nat) (K:Cont):Prop:=
Xb .int .lss a1 (.int .i64 0) fun v6=>
Qa v6 (
Qc K (.int .i64 0) g n) (
Xb .int .eql a0 (.int .i64 1) fun v9=>
Qa v9 (
Xas C K (puts (Qq [a0,a1]) [(4,.int .i64 0),(5,a1),(6,v6),(7,a0),(9,v9),(8,v9)]) g n) (
Xb .int .eql a0 (.int .i64 2) fun v10=>
Qa v10 (
Xas C K (puts (Qq [a0,a1]) [(4,.int .i64 0),(5,a1),(6,v6),(7,a0),(9,v9),(8,v9),(10,v10),(8,v10)]) g n) (
Xb .int .eql a0 (.int .i64 4) fun v11=>
Qa v11 (
Xas C K (puts (Qq [a0,a1]) [(4,.int .i64 0),(5,a1),(6,v6),(7,a0),(9,v9),(8,v9),(10,v10),(8,v10),(11,v11),(8,v11)]) g n) (
Xb .int .eql a0 (.int .i64 8) fun v12=>
Xas C K (puts (Qq [a0,a1]) [(4,.int .i64 0),(5,a1),(6,v6),(7,a0),(9,v9),(8,v9),(10,v10),(8,v10),(11,v11),(8,v11),(12,v12),(8,v12)]) g n))))
theorem ZdL (C:CT) (a0 a1:Value) (g:G) (n:Nat) (K:Cont):Zef C a0 a1 g n K=Zg Tryz.prog C QbD [a0,a1] g n K:=by kernel_rfl
def Qbz (C:CT) (a0 a1:Value) (g:G) (n:Nat) (K:Cont):Prop:=
Xb .ptr .eql a0 (.pointer none) fun v7=>
Qa v7 (
Qc K (.int .i64 1) g n) (
Xb .int .lss a1 (.int .i64 0) fun v10=>
Qa v10 (
Qc K (.int .i64 12) g n) (
Qo a0 fun v14=>
Qe v14 fun l15 o15=>
kLd g l15 (o15+0) fun v16=>
ZaH v16 fun v17=>
Xb .int .geq a1 v17 fun v18=>
Qa v18 (
Qc K (.int .i64 12) g n) (
Qc K (.int .i64 0) g n)))
theorem Zb3 (C:CT) (a0 a1:Value) (g:G) (n:Nat) (K:Cont):Qbz C a0 a1 g n K=Zg Tryz.prog C XQ [a0,a1] g n K:=by kernel_rfl
def Ja9 (C:CT) (K:Cont) (I_l1:Qn) (t:Env) (g:G) (n:Nat):Prop:=
Xb .int .lss (t 30) (t 29) fun v31=>
Qa v31 (
Jc (t 28) (t 30) 1 fun v32=>
Qe v32 fun l33 o33=>
kLd g l33 o33 fun v33=>
C QF [t 0,v33,t 4] g n fun v37 g5 n37=>
Xb .int .add (t 30) (.int .i64 1) fun v38=>
I_l1 (puts t [(31,v31),(32,v32),(33,v33),(11,v33),(34,t 0),(35,v33),(36,t 4),(37,v37),(38,v38),(30,v38)]) g5 n37) (
Qc K (.tuple #[]) g n)
def QbU (C:CT) (a0 a1 a2 a3 a4:Value) (g:G) (n:Nat) (K:Cont):Prop:=
Qo a0 fun v18=>
Qe v18 fun l19 o19=>
kSt g l19 (o19+0+12) a1 fun g1=>
Qo a0 fun v21=>
Qe v21 fun l22 o22=>
kSt g1 l22 (o22+0+13) a2 fun g2=>
Qo a0 fun v24=>
Qe v24 fun l25 o25=>
kSt g2 l25 (o25+0+14) a3 fun g3=>
C Za5 [a3] g3 n fun v28 g4 n28=>
ZaH v28 fun v29=>
lfp (Ja9 C K) (puts (Qq [a0,a1,a2,a3,a4]) [(12,a0),(13,a0),(14,a0),(15,a1),(16,a2),(17,a3),(18,v18),(19,(ptr l19 (o19+0))),(20,(ptr l19 (o19+0+12))),(21,v21),(22,(ptr l22 (o22+0))),(23,(ptr l22 (o22+0+13))),(24,v24),(25,(ptr l25 (o25+0))),(26,(ptr l25 (o25+0+14))),(27,a3),(28,v28),(29,v29),(30,.int .i64 0)]) g4 n28
theorem Jcg (C:CT) (a0 a1 a2 a3 a4:Value) (g:G) (n:Nat) (K:Cont):QbU C a0 a1 a2 a3 a4 g n K=Zg Tryz.prog C QL [a0,a1,a2,a3,a4] g n K:=by kernel_rfl
def Xba (C:CT) (a0:Value) (g:G) (n:Nat) (K:Cont):Prop:=
Qo a0 fun v4=>
Qe v4 fun l5 o5=>
kLd g l5 (o5+0+11) fun v7=>
Qo a0 fun v9=>
Qe v9 fun l10 o10=>
kLd g l10 (o10+0+10) fun v12=>
C Jp [v12] g n fun v13 g1 n13=>
(Qe (ptr l5 (o5+0+11)) fun l _=>g1 l=g l)∧Xb .int .or v7 v13 fun v14=>
Qc K v14 g1 n13
theorem JbJ (C:CT) (a0:Value) (g:G) (n:Nat) (K:Cont):Xba C a0 g n K=Zg Tryz.prog C JU [a0] g n K:=by kernel_rfl
def ZbV (C:CT) (K:Cont) (I_l1:Qn) (t:Env) (g:G) (n:Nat):Prop:=
Xb .int .lss (t 5) (.int .i64 8) fun v6=>
Qa v6 (
C Za1 [t 0,t 5] g n fun v10 g1 n10=>
Qa v10 (
Xk (reps 1 [.int .i64 0]) [(0,none,t 5)] fun c13=>
Zw c13 .exact g1 n10 fun l13 g2 n13=>
Q5 (t 3) (.slice (some ⟨l13,0,none⟩) 1 1) 1 8 g2 n13 fun v14 g3 n14=>
Xb .int .add (t 5) (.int .i64 1) fun v15=>
I_l1 (puts t [(6,v6),(7,t 5),(4,t 5),(8,t 0),(9,t 5),(10,v10),(11,t 3),(12,t 5),(13,(.slice (some ⟨l13,0,none⟩) 1 1)),(14,v14),(3,v14),(15,v15),(5,v15)]) g3 n14) (
Xb .int .add (t 5) (.int .i64 1) fun v15=>
I_l1 (puts t [(6,v6),(7,t 5),(4,t 5),(8,t 0),(9,t 5),(10,v10),(15,v15),(5,v15)]) g1 n10)) (
Qc K (t 3) g n)
def Xc2 (C:CT) (a0:Value) (g:G) (n:Nat) (K:Cont):Prop:=
lfp (ZbV C K) (puts (Qq [a0]) [(2,.slice none 0 0),(3,.slice none 0 0),(5,.int .i64 0)]) g n
theorem Qdd (C:CT) (a0:Value) (g:G) (n:Nat) (K:Cont):Xc2 C a0 g n K=Zg Tryz.prog C Za5 [a0] g n K:=by kernel_rfl
end Go.Proofs.YtmchcjaomcdbmaaGreat.Gen
