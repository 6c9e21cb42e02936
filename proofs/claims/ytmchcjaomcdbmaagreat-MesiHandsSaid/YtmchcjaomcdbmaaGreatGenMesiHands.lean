import Derived.Test.YtmchcjaomcdbmaaGreatProg
import Derived.KernelRfl
import Derived.Test.YtmchcjaomcdbmaaGreatAbsC
/- What the machine comes to on each function, printed by program; each equation is checked by the kernel. -/
set_option linter.all false
set_option linter.deprecated false
namespace Go.Proofs.YtmchcjaomcdbmaaGreat.Gen
open Go Go.Proofs.YtmchcjaomcdbmaaGreat.Abs
def QO:FuncId:=3
def Xac:FuncId:=12
def QM:FuncId:=13
def Xa2:FuncId:=14
def Xl:FuncId:=15
def X5:FuncId:=16
def QK:FuncId:=17
def XA:FuncId:=18
def Xad:FuncId:=19
def J6:FuncId:=20
def Zac:FuncId:=23
def Qad:FuncId:=24
def Q7:FuncId:=48
def ZH:FuncId:=51
def ZR:FuncId:=52
def ZB:FuncId:=53
def QN:FuncId:=54
def J3:FuncId:=55
def Qbk:FuncId:=56
def ZaQ:FuncId:=57
def ZO:FuncId:=58
def QZ:FuncId:=59
def ZbY:FuncId:=60
def Jac:FuncId:=61
def Jp:FuncId:=62
def Jq:FuncId:=63
def Jah:FuncId:=64
def Xag:FuncId:=65
def Zak:FuncId:=66
def Jab:FuncId:=67
def Xm:FuncId:=68
def Qao:FuncId:=69
def Jad:FuncId:=70
def Qbd:FuncId:=71
def Jaa:FuncId:=73
def Xab:FuncId:=121
def JR:FuncId:=122
def Jak:FuncId:=123
def Jbr:FuncId:=124
def Qr:FuncId:=125
def Jk:FuncId:=126
def Jaj:FuncId:=127
def ZaB:FuncId:=128
def Qe:FuncId:=129
def Qbl:FuncId:=130
def Zw:FuncId:=131
def XaD:FuncId:=132
def Xo:FuncId:=133
def Qac:FuncId:=134
def JN:FuncId:=135
def ZaM:FuncId:=136
def QaY:FuncId:=137
def Jm:FuncId:=138
def Xau:FuncId:=139
def Qak:FuncId:=140
def Zq:FuncId:=141
def Zaj:FuncId:=142
def Q0:FuncId:=143
def JG:FuncId:=144
def Zab:FuncId:=147
def JS:FuncId:=148
def XE:FuncId:=192
def Qah:FuncId:=193
def QaX:FuncId:=194
def XaF:FuncId:=195
def Qau:FuncId:=196
def JbD:FuncId:=197
def QbA:FuncId:=198
def Zbj:FuncId:=199
def Zbx:FuncId:=200
def Qai:FuncId:=201
def Jaq:FuncId:=202
def JaO:FuncId:=203
def Za4:FuncId:=204
def Xq:FuncId:=205
def Qaf:FuncId:=206
def QW:FuncId:=207
def JV:FuncId:=208
def JQ:FuncId:=209
def Jbc:FuncId:=210
def Qa1:FuncId:=211
def Zai:FuncId:=212
def ZI:FuncId:=213
def ZM:FuncId:=214
def Qu:FuncId:=215
def Jai:FuncId:=216
def QF:FuncId:=217
def Zr:FuncId:=218
def Jt:FuncId:=219
def Qaj:FuncId:=220
def ZcM:FuncId:=221
def Zy:FuncId:=222
def Zar:FuncId:=223
def Zx:FuncId:=224
def J7:FuncId:=225
def QaP:FuncId:=226
def Qp:FuncId:=227
def Xt:FuncId:=228
def Zav:FuncId:=229
def Qf:FuncId:=271
def Jaf:FuncId:=273
def Zaf:FuncId:=274
def Qap:FuncId:=275
def J8:FuncId:=276
def Zah:FuncId:=277
def Xaj:FuncId:=278
def JbH:FuncId:=279
def ZP:FuncId:=280
def QL:FuncId:=300
def ZT:FuncId:=301
def Ja3:FuncId:=314
def XC (C:CT) (K:Cont) (I_l3:Zl) (I_l5:Zl) (t:Env) (g:G) (n:Nat):Prop:=
Qa (t 109) (
Jc K (.bool false) g n) (
Zd (t 2) fun l112 o112=>
Zo g l112 o112 7 fun c112=>
C XA [t 5,.agg c112.toArray] g n fun v113 g12 n113=>
Qb .int .add (t 11) (.int .i64 1) fun v92=>
I_l5 (puts t [(110,t 13),(10,t 13),(111,t 5),(112,.agg c112.toArray),(113,v113),(91,t 11),(92,v92),(11,v92)]) g12 n113)
def Qaa (C:CT) (K:Cont) (I_l3:Zl) (t:Env) (g:G) (n:Nat):Prop:=
Qb .int .add (t 7) (.int .i64 1) fun v45=>
I_l3 (puts t [(44,t 7),(45,v45),(7,v45)]) g n
def Xz (C:CT) (K:Cont) (I_l3:Zl) (t:Env) (g:G) (n:Nat):Prop:=
Qa (t 150) (
Jc K (.bool false) g n) (
Qaa C K I_l3 t g n)
def ZC (C:CT) (K:Cont) (I_l3:Zl) (t:Env) (g:G) (n:Nat):Prop:=
Qa (t 127) (
Jc K (.bool false) g n) (
Zd (t 2) fun l129 o129=>
Zo g l129 o129 7 fun c129=>
C XA [t 5,.agg c129.toArray] g n fun v130 g13 n130=>
C J6 [t 5] g13 n130 fun v132 g14 n132=>
QaN v132 fun v134=>
Zd (t 2) fun l135 o135=>
kLd g14 l135 (o135+1) fun v136=>
Qb .int .neq v134 v136 fun v137=>
Qa v137 (
Xz C K I_l3 (puts t [(128,t 5),(129,.agg c129.toArray),(130,v130),(131,t 5),(132,v132),(14,v132),(133,v132),(134,v134),(135,(ptr l135 (o135+1))),(136,v136),(137,v137),(138,.bool true),(139,undef),(140,undef),(141,undef),(142,undef),(143,undef),(144,undef),(145,undef),(146,undef),(147,undef),(148,undef),(149,undef),(150,.bool true)]) g14 n132) (
Zd (t 8) fun l140 o140=>
kLd g14 l140 (o140+2) fun v141=>
Zd (t 8) fun l142 o142=>
kLd g14 l142 (o142+3) fun v143=>
Xc v132 v141 8 fun v144=>
ZE v144 v143 8 1 fun v145=>
Zd v145 fun l146 o146=>
kLd g14 l146 o146 fun v146=>
Zd (t 8) fun l147 o147=>
kLd g14 l147 (o147+4) fun v148=>
Qb .int .neq v146 v148 fun v149=>
Xz C K I_l3 (puts t [(128,t 5),(129,.agg c129.toArray),(130,v130),(131,t 5),(132,v132),(14,v132),(133,v132),(134,v134),(135,(ptr l135 (o135+1))),(136,v136),(137,v137),(138,.bool false),(139,v132),(140,(ptr l140 (o140+2))),(141,v141),(142,(ptr l142 (o142+3))),(143,v143),(144,v144),(145,v145),(146,v146),(147,(ptr l147 (o147+4))),(148,v148),(149,v149),(150,v149)]) g14 n132))
def Qae (C:CT) (K:Cont) (I_l3:Zl) (t:Env) (g:G) (n:Nat):Prop:=
kUn .not (t 10) fun v115=>
Qa v115 (
ZC C K I_l3 (puts t [(114,t 10),(115,v115),(116,.bool true),(117,undef),(118,undef),(119,undef),(120,undef),(121,undef),(122,undef),(123,undef),(124,undef),(125,undef),(126,undef),(127,.bool true)]) g n) (
Zd (t 8) fun l118 o118=>
kLd g l118 (o118+1) fun v119=>
Zd (t 8) fun l120 o120=>
kLd g l120 (o120+2) fun v121=>
Qb .int .rem (t 7) (.int .i64 2) fun v123=>
Qb .int .add (.int .i64 4) v123 fun v124=>
C Xad [t 5,v119,v121,v124] g n fun v125 g15 n125=>
Qb .int .neq v125 (.int .i64 0) fun v126=>
ZC C K I_l3 (puts t [(114,t 10),(115,v115),(116,.bool false),(117,t 5),(118,(ptr l118 (o118+1))),(119,v119),(120,(ptr l120 (o120+2))),(121,v121),(122,t 7),(123,v123),(124,v124),(125,v125),(126,v126),(127,v126)]) g15 n125)
def ZD (C:CT) (K:Cont) (I_l3:Zl) (I_l5:Zl) (t:Env) (g:G) (n:Nat):Prop:=
Qa (t 90) (
Zd (t 8) fun l96 o96=>
kLd g l96 (o96+2) fun v97=>
Zd (t 8) fun l98 o98=>
kLd g l98 (o98+3) fun v99=>
C QK [t 5,t 9,v97,v99] g n fun v100 g11 n100=>
Xd v100 0 fun v101=>
Xd v100 1 fun v102=>
Qa v102 (
Zd (t 8) fun l106 o106=>
kLd g11 l106 (o106+4) fun v107=>
Qb .int .neq v101 v107 fun v108=>
XC C K I_l3 I_l5 (puts t [(94,t 5),(95,t 9),(96,(ptr l96 (o96+2))),(97,v97),(98,(ptr l98 (o98+3))),(99,v99),(100,v100),(93,v100),(101,v101),(102,v102),(12,v101),(13,v102),(103,v102),(104,.bool true),(105,v101),(106,(ptr l106 (o106+4))),(107,v107),(108,v108),(109,v108)]) g11 n100) (
XC C K I_l3 I_l5 (puts t [(94,t 5),(95,t 9),(96,(ptr l96 (o96+2))),(97,v97),(98,(ptr l98 (o98+3))),(99,v99),(100,v100),(93,v100),(101,v101),(102,v102),(12,v101),(13,v102),(103,v102),(104,.bool false),(105,undef),(106,undef),(107,undef),(108,undef),(109,.bool false)]) g11 n100)) (
Qae C K I_l3 t g n)
def Xae (C:CT) (K:Cont) (I_l3:Zl) (I_l5:Zl) (t:Env) (g:G) (n:Nat):Prop:=
Qb .int .lss (t 11) (.int .i64 12) fun v86=>
Qa v86 (
kUn .not (t 10) fun v89=>
ZD C K I_l3 I_l5 (puts t [(85,t 11),(86,v86),(87,.bool true),(88,t 10),(89,v89),(90,v89)]) g n) (
ZD C K I_l3 I_l5 (puts t [(85,t 11),(86,v86),(87,.bool false),(88,undef),(89,undef),(90,.bool false)]) g n)
def Zm (C:CT) (K:Cont) (I_l3:Zl) (t:Env) (g:G) (n:Nat):Prop:=
Zd (t 2) fun l75 o75=>
Zo g l75 o75 7 fun c75=>
Zd (t 8) fun l76 o76=>
Zo g l76 o76 5 fun c76=>
C X5 [t 5,.agg c75.toArray,.agg c76.toArray] g n fun v77 g10 n77=>
kUn .not v77 fun v78=>
Qa v78 (
Jc K (.bool false) g10 n77) (
Zd (t 8) fun l79 o79=>
kLd g10 l79 (o79+1) fun v80=>
Qb .int .add v80 (.int .i64 1) fun v81=>
Zd (t 2) fun l82 o82=>
kLd g10 l82 (o82+0) fun v83=>
Qb .int .rem v81 v83 fun v84=>
lfp (Xae C K I_l3) (puts t [(74,t 5),(75,.agg c75.toArray),(76,.agg c76.toArray),(77,v77),(78,v78),(79,(ptr l79 (o79+1))),(80,v80),(81,v81),(82,(ptr l82 (o82+0))),(83,v83),(84,v84),(9,v84),(10,.bool false),(11,.int .i64 0)]) g10 n77)
def XO (C:CT) (K:Cont) (I_l3:Zl) (t:Env) (g:G) (n:Nat):Prop:=
QaN (t 1) fun v42=>
Qb .int .lss (t 7) v42 fun v43=>
Qa v43 (
Xc (t 1) (t 7) 5 fun v48=>
Zd v48 fun l49 o49=>
kLd g l49 (o49+1) fun v50=>
Zd (t 2) fun l51 o51=>
kLd g l51 (o51+0) fun v52=>
Xc (t 1) (t 7) 5 fun v56=>
Zd v56 fun l57 o57=>
kLd g l57 (o57+2) fun v58=>
Zd (t 2) fun l59 o59=>
kLd g l59 (o59+1) fun v60=>
Xc (t 1) (t 7) 5 fun v64=>
Zd v64 fun l65 o65=>
kLd g l65 (o65+3) fun v66=>
Xc (t 1) (t 7) 5 fun v70=>
Zd v70 fun l71 o71=>
kLd g l71 (o71+4) fun v72=>
(C Xl [v50,v52] g n fun v53 g5 n53=>
(Zd (ptr l57 (o57+2)) fun l _=>g5 l=g l)∧(Zd (ptr l59 (o59+1)) fun l _=>g5 l=g l)∧(Zd (ptr l65 (o65+3)) fun l _=>g5 l=g l)∧(Zd (ptr l71 (o71+4)) fun l _=>g5 l=g l)∧(C Xl [v58,v60] g5 n53 fun v61 g6 n61=>
(Zd (ptr l65 (o65+3)) fun l _=>g6 l=g5 l)∧(Zd (ptr l71 (o71+4)) fun l _=>g6 l=g5 l)∧(C Xl [v66,.int .i64 8] g6 n61 fun v67 g7 n67=>
(Zd (ptr l71 (o71+4)) fun l _=>g7 l=g6 l)∧Qi [.int .i64 0,.int .i64 0,.int .i64 0,.int .i64 0,.int .u64 0] [(1,none,v53),(2,none,v61),(3,none,v67),(4,none,v72)] fun c73=>
Jw [.int .i64 0,.int .i64 0,.int .i64 0,.int .i64 0,.int .u64 0] .exact g7 n67 fun l8 g8 n8=>
(Zd (ptr l49 (o49+1)) fun l _=>g8 l=g7 l)∧(Zd (ptr l51 (o51+0)) fun l _=>g8 l=g7 l)∧(Zd (ptr l57 (o57+2)) fun l _=>g8 l=g7 l)∧(Zd (ptr l59 (o59+1)) fun l _=>g8 l=g7 l)∧(Zd (ptr l65 (o65+3)) fun l _=>g8 l=g7 l)∧(Zd (ptr l71 (o71+4)) fun l _=>g8 l=g7 l)∧Xn (.agg c73.toArray) fun cg9=>
cg9.length=5∧Qx g8 l8 0 cg9 fun g9=>
Zm C K I_l3 (puts t [(40,t 7),(41,t 1),(42,v42),(43,v43),(46,t 1),(47,t 7),(48,v48),(49,(ptr l49 (o49+1))),(50,v50),(51,(ptr l51 (o51+0))),(52,v52),(54,t 1),(55,t 7),(56,v56),(57,(ptr l57 (o57+2))),(58,v58),(59,(ptr l59 (o59+1))),(60,v60),(62,t 1),(63,t 7),(64,v64),(65,(ptr l65 (o65+3))),(66,v66),(68,t 1),(69,t 7),(70,v70),(71,(ptr l71 (o71+4))),(72,v72),(53,v53),(61,v61),(67,v67),(73,.agg c73.toArray),(8,ptr l8 0)]) g9 n8)∧(Jw [.int .i64 0,.int .i64 0,.int .i64 0,.int .i64 0,.int .u64 0] .exact g6 n61 fun l8 g16 n8=>
(Zd (ptr l49 (o49+1)) fun l _=>g16 l=g6 l)∧(Zd (ptr l51 (o51+0)) fun l _=>g16 l=g6 l)∧(Zd (ptr l57 (o57+2)) fun l _=>g16 l=g6 l)∧(Zd (ptr l59 (o59+1)) fun l _=>g16 l=g6 l)∧(Zd (ptr l65 (o65+3)) fun l _=>g16 l=g6 l)∧(Zd (ptr l71 (o71+4)) fun l _=>g16 l=g6 l)∧C Xl [v66,.int .i64 8] g16 n8 fun v67 g17 n67=>
(Zd (ptr l71 (o71+4)) fun l _=>g17 l=g16 l)∧Qi [.int .i64 0,.int .i64 0,.int .i64 0,.int .i64 0,.int .u64 0] [(1,none,v53),(2,none,v61),(3,none,v67),(4,none,v72)] fun c73=>
Xn (.agg c73.toArray) fun cg18=>
cg18.length=5∧Qx g17 l8 0 cg18 fun g18=>
Zm C K I_l3 (puts t [(40,t 7),(41,t 1),(42,v42),(43,v43),(46,t 1),(47,t 7),(48,v48),(49,(ptr l49 (o49+1))),(50,v50),(51,(ptr l51 (o51+0))),(52,v52),(54,t 1),(55,t 7),(56,v56),(57,(ptr l57 (o57+2))),(58,v58),(59,(ptr l59 (o59+1))),(60,v60),(62,t 1),(63,t 7),(64,v64),(65,(ptr l65 (o65+3))),(66,v66),(68,t 1),(69,t 7),(70,v70),(71,(ptr l71 (o71+4))),(72,v72),(53,v53),(61,v61),(8,ptr l8 0),(67,v67),(73,.agg c73.toArray)]) g18 n67))∧(Jw [.int .i64 0,.int .i64 0,.int .i64 0,.int .i64 0,.int .u64 0] .exact g5 n53 fun l8 g19 n8=>
(Zd (ptr l49 (o49+1)) fun l _=>g19 l=g5 l)∧(Zd (ptr l51 (o51+0)) fun l _=>g19 l=g5 l)∧(Zd (ptr l57 (o57+2)) fun l _=>g19 l=g5 l)∧(Zd (ptr l59 (o59+1)) fun l _=>g19 l=g5 l)∧(Zd (ptr l65 (o65+3)) fun l _=>g19 l=g5 l)∧(Zd (ptr l71 (o71+4)) fun l _=>g19 l=g5 l)∧C Xl [v58,v60] g19 n8 fun v61 g20 n61=>
(Zd (ptr l65 (o65+3)) fun l _=>g20 l=g19 l)∧(Zd (ptr l71 (o71+4)) fun l _=>g20 l=g19 l)∧C Xl [v66,.int .i64 8] g20 n61 fun v67 g21 n67=>
(Zd (ptr l71 (o71+4)) fun l _=>g21 l=g20 l)∧Qi [.int .i64 0,.int .i64 0,.int .i64 0,.int .i64 0,.int .u64 0] [(1,none,v53),(2,none,v61),(3,none,v67),(4,none,v72)] fun c73=>
Xn (.agg c73.toArray) fun cg22=>
cg22.length=5∧Qx g21 l8 0 cg22 fun g22=>
Zm C K I_l3 (puts t [(40,t 7),(41,t 1),(42,v42),(43,v43),(46,t 1),(47,t 7),(48,v48),(49,(ptr l49 (o49+1))),(50,v50),(51,(ptr l51 (o51+0))),(52,v52),(54,t 1),(55,t 7),(56,v56),(57,(ptr l57 (o57+2))),(58,v58),(59,(ptr l59 (o59+1))),(60,v60),(62,t 1),(63,t 7),(64,v64),(65,(ptr l65 (o65+3))),(66,v66),(68,t 1),(69,t 7),(70,v70),(71,(ptr l71 (o71+4))),(72,v72),(53,v53),(8,ptr l8 0),(61,v61),(67,v67),(73,.agg c73.toArray)]) g22 n67))∧(Jw [.int .i64 0,.int .i64 0,.int .i64 0,.int .i64 0,.int .u64 0] .exact g n fun l8 g23 n8=>
(Zd (ptr l49 (o49+1)) fun l _=>g23 l=g l)∧(Zd (ptr l51 (o51+0)) fun l _=>g23 l=g l)∧(Zd (ptr l57 (o57+2)) fun l _=>g23 l=g l)∧(Zd (ptr l59 (o59+1)) fun l _=>g23 l=g l)∧(Zd (ptr l65 (o65+3)) fun l _=>g23 l=g l)∧(Zd (ptr l71 (o71+4)) fun l _=>g23 l=g l)∧C Xl [v50,v52] g23 n8 fun v53 g24 n53=>
(Zd (ptr l57 (o57+2)) fun l _=>g24 l=g23 l)∧(Zd (ptr l59 (o59+1)) fun l _=>g24 l=g23 l)∧(Zd (ptr l65 (o65+3)) fun l _=>g24 l=g23 l)∧(Zd (ptr l71 (o71+4)) fun l _=>g24 l=g23 l)∧C Xl [v58,v60] g24 n53 fun v61 g25 n61=>
(Zd (ptr l65 (o65+3)) fun l _=>g25 l=g24 l)∧(Zd (ptr l71 (o71+4)) fun l _=>g25 l=g24 l)∧C Xl [v66,.int .i64 8] g25 n61 fun v67 g26 n67=>
(Zd (ptr l71 (o71+4)) fun l _=>g26 l=g25 l)∧Qi [.int .i64 0,.int .i64 0,.int .i64 0,.int .i64 0,.int .u64 0] [(1,none,v53),(2,none,v61),(3,none,v67),(4,none,v72)] fun c73=>
Xn (.agg c73.toArray) fun cg27=>
cg27.length=5∧Qx g26 l8 0 cg27 fun g27=>
Zm C K I_l3 (puts t [(40,t 7),(41,t 1),(42,v42),(43,v43),(46,t 1),(47,t 7),(48,v48),(49,(ptr l49 (o49+1))),(50,v50),(51,(ptr l51 (o51+0))),(52,v52),(54,t 1),(55,t 7),(56,v56),(57,(ptr l57 (o57+2))),(58,v58),(59,(ptr l59 (o59+1))),(60,v60),(62,t 1),(63,t 7),(64,v64),(65,(ptr l65 (o65+3))),(66,v66),(68,t 1),(69,t 7),(70,v70),(71,(ptr l71 (o71+4))),(72,v72),(8,ptr l8 0),(53,v53),(61,v61),(67,v67),(73,.agg c73.toArray)]) g27 n67)) (
C QM [] g n fun v151 g28 n151=>
Jc K v151 g28 n151)
def QC (C:CT) (K:Cont) (t:Env) (g:G) (n:Nat):Prop:=
Qa (t 39) (
Jc K (.bool false) g n) (
lfp (XO C K) (puts t [(7,.int .i64 0)]) g n)
def Jl (C:CT) (K:Cont) (t:Env) (g:G) (n:Nat):Prop:=
Qa (t 27) (
C QM [] g n fun v28 g3 n28=>
Jc K v28 g3 n28) (
Zd (t 2) fun l30 o30=>
Zo g l30 o30 7 fun c30=>
C Xa2 [.agg c30.toArray,.slice none 0 0] g n fun v31 g4 n31=>
Xd v31 0 fun v32=>
Xd v31 1 fun v33=>
Qb .int .neq v33 (.int .i64 0) fun v35=>
Qa v35 (
QC C K (puts t [(30,.agg c30.toArray),(31,v31),(29,v31),(32,v32),(33,v33),(5,v32),(6,v33),(34,v33),(35,v35),(36,.bool true),(37,undef),(38,undef),(39,.bool true)]) g4 n31) (
Qb .ptr .eql v32 (.pointer none) fun v38=>
QC C K (puts t [(30,.agg c30.toArray),(31,v31),(29,v31),(32,v32),(33,v33),(5,v32),(6,v33),(34,v33),(35,v35),(36,.bool false),(37,v32),(38,v38),(39,v38)]) g4 n31))
def Zas (C:CT) (a0 a1:Value) (g:G) (n:Nat) (K:Cont):Prop:=
Xn a0 fun c2=>
Jw c2 .exact g n fun l2 g1 n2=>
Zo g1 l2 0 7 fun c15=>
C Xac [.agg c15.toArray] g1 n2 fun v16 g2 n16=>
kUn .not v16 fun v17=>
Qa v17 (
Jl C K (puts (Qq [a0,a1]) [(2,ptr l2 0),(4,.bool false),(15,.agg c15.toArray),(16,v16),(17,v17),(18,.bool true),(19,undef),(20,undef),(21,undef),(22,.bool true),(23,.bool true),(24,undef),(25,undef),(26,undef),(27,.bool true)]) g2 n16) (
kLd g2 l2 (0+1) fun v20=>
Qb .int .gtr v20 (.int .i64 12) fun v21=>
Qa v21 (
Jl C K (puts (Qq [a0,a1]) [(2,ptr l2 0),(4,.bool false),(15,.agg c15.toArray),(16,v16),(17,v17),(18,.bool false),(19,(ptr l2 (0+1))),(20,v20),(21,v21),(22,v21),(23,.bool true),(24,undef),(25,undef),(26,undef),(27,.bool true)]) g2 n16) (
QaN a1 fun v25=>
Qb .int .gtr v25 (.int .i64 12) fun v26=>
Jl C K (puts (Qq [a0,a1]) [(2,ptr l2 0),(4,.bool false),(15,.agg c15.toArray),(16,v16),(17,v17),(18,.bool false),(19,(ptr l2 (0+1))),(20,v20),(21,v21),(22,v21),(23,.bool false),(24,a1),(25,v25),(26,v26),(27,v26)]) g2 n16))
theorem ZaP (C:CT) (a0 a1:Value) (g:G) (n:Nat) (K:Cont):Zas C a0 a1 g n K=Zg Tryz.prog C QO [a0,a1] g n K:=by kernel_rfl
def XaS (C:CT) (a0:Value) (g:G) (n:Nat) (K:Cont):Prop:=
Xn a0 fun c1=>
Jw c1 .exact g n fun l1 g1 n1=>
kLd g1 l1 (0+0) fun v4=>
Qb .int .geq v4 (.int .i64 1) fun v5=>
Qa v5 (
kLd g1 l1 (0+0) fun v8=>
Qb .int .leq v8 (.int .i64 8) fun v9=>
Qa v9 (
kLd g1 l1 (0+1) fun v13=>
Qb .int .geq v13 (.int .i64 2) fun v14=>
Qa v14 (
kLd g1 l1 (0+1) fun v18=>
Qb .int .leq v18 (.int .i64 64) fun v19=>
Qa v19 (
kLd g1 l1 (0+2) fun v23=>
Qb .int .geq v23 (.int .i64 1) fun v24=>
Qa v24 (
kLd g1 l1 (0+2) fun v28=>
kLd g1 l1 (0+1) fun v30=>
Qb .int .lss v28 v30 fun v31=>
Qa v31 (
kLd g1 l1 (0+3) fun v35=>
Qb .int .eql v35 (.int .i64 1) fun v36=>
Qa v36 (
kLd g1 l1 (0+4) fun v55=>
Qb .int .geq v55 (.int .i64 1) fun v56=>
Qa v56 (
kLd g1 l1 (0+4) fun v60=>
Qb .int .leq v60 (.int .i64 8) fun v61=>
Qa v61 (
kLd g1 l1 (0+5) fun v65=>
Qb .int .geq v65 (.int .i64 1) fun v66=>
Qa v66 (
kLd g1 l1 (0+5) fun v70=>
Qb .int .leq v70 (.int .i64 16) fun v71=>
Qa v71 (
kLd g1 l1 (0+6) fun v75=>
Qb .int .geq v75 (.int .i64 1) fun v76=>
Qa v76 (
kLd g1 l1 (0+6) fun v80=>
Qb .int .leq v80 (.int .i64 16) fun v81=>
Jc K v81 g1 n1) (
Jc K (.bool false) g1 n1)) (
Jc K (.bool false) g1 n1)) (
Jc K (.bool false) g1 n1)) (
Jc K (.bool false) g1 n1)) (
Jc K (.bool false) g1 n1)) (
kLd g1 l1 (0+3) fun v39=>
Qb .int .eql v39 (.int .i64 2) fun v40=>
Qa v40 (
kLd g1 l1 (0+4) fun v55=>
Qb .int .geq v55 (.int .i64 1) fun v56=>
Qa v56 (
kLd g1 l1 (0+4) fun v60=>
Qb .int .leq v60 (.int .i64 8) fun v61=>
Qa v61 (
kLd g1 l1 (0+5) fun v65=>
Qb .int .geq v65 (.int .i64 1) fun v66=>
Qa v66 (
kLd g1 l1 (0+5) fun v70=>
Qb .int .leq v70 (.int .i64 16) fun v71=>
Qa v71 (
kLd g1 l1 (0+6) fun v75=>
Qb .int .geq v75 (.int .i64 1) fun v76=>
Qa v76 (
kLd g1 l1 (0+6) fun v80=>
Qb .int .leq v80 (.int .i64 16) fun v81=>
Jc K v81 g1 n1) (
Jc K (.bool false) g1 n1)) (
Jc K (.bool false) g1 n1)) (
Jc K (.bool false) g1 n1)) (
Jc K (.bool false) g1 n1)) (
Jc K (.bool false) g1 n1)) (
kLd g1 l1 (0+3) fun v44=>
Qb .int .eql v44 (.int .i64 4) fun v45=>
Qa v45 (
kLd g1 l1 (0+4) fun v55=>
Qb .int .geq v55 (.int .i64 1) fun v56=>
Qa v56 (
kLd g1 l1 (0+4) fun v60=>
Qb .int .leq v60 (.int .i64 8) fun v61=>
Qa v61 (
kLd g1 l1 (0+5) fun v65=>
Qb .int .geq v65 (.int .i64 1) fun v66=>
Qa v66 (
kLd g1 l1 (0+5) fun v70=>
Qb .int .leq v70 (.int .i64 16) fun v71=>
Qa v71 (
kLd g1 l1 (0+6) fun v75=>
Qb .int .geq v75 (.int .i64 1) fun v76=>
Qa v76 (
kLd g1 l1 (0+6) fun v80=>
Qb .int .leq v80 (.int .i64 16) fun v81=>
Jc K v81 g1 n1) (
Jc K (.bool false) g1 n1)) (
Jc K (.bool false) g1 n1)) (
Jc K (.bool false) g1 n1)) (
Jc K (.bool false) g1 n1)) (
Jc K (.bool false) g1 n1)) (
kLd g1 l1 (0+3) fun v49=>
Qb .int .eql v49 (.int .i64 8) fun v50=>
Qa v50 (
kLd g1 l1 (0+4) fun v55=>
Qb .int .geq v55 (.int .i64 1) fun v56=>
Qa v56 (
kLd g1 l1 (0+4) fun v60=>
Qb .int .leq v60 (.int .i64 8) fun v61=>
Qa v61 (
kLd g1 l1 (0+5) fun v65=>
Qb .int .geq v65 (.int .i64 1) fun v66=>
Qa v66 (
kLd g1 l1 (0+5) fun v70=>
Qb .int .leq v70 (.int .i64 16) fun v71=>
Qa v71 (
kLd g1 l1 (0+6) fun v75=>
Qb .int .geq v75 (.int .i64 1) fun v76=>
Qa v76 (
kLd g1 l1 (0+6) fun v80=>
Qb .int .leq v80 (.int .i64 16) fun v81=>
Jc K v81 g1 n1) (
Jc K (.bool false) g1 n1)) (
Jc K (.bool false) g1 n1)) (
Jc K (.bool false) g1 n1)) (
Jc K (.bool false) g1 n1)) (
Jc K (.bool false) g1 n1)) (
Jc K (.bool false) g1 n1))))) (
Jc K (.bool false) g1 n1)) (
Jc K (.bool false) g1 n1)) (
Jc K (.bool false) g1 n1)) (
Jc K (.bool false) g1 n1)) (
Jc K (.bool false) g1 n1)) (
Jc K (.bool false) g1 n1)
theorem Jbt (C:CT) (a0:Value) (g:G) (n:Nat) (K:Cont):XaS C a0 g n K=Zg Tryz.prog C Xac [a0] g n K:=by kernel_rfl
def QaM (C:CT) (g:G) (n:Nat) (K:Cont):Prop:=
C Q7 [] g n fun v8 g1 n8=>
C Xa2 [v8,.slice none 0 0] g1 n8 fun v9 g2 n9=>
Xd v9 0 fun v10=>
Xd v9 1 fun v11=>
Qb .int .neq v11 (.int .i64 0) fun v13=>
Qa v13 (
Jc K (.bool false) g2 n9) (
Qb .ptr .eql v10 (.pointer none) fun v16=>
Qa v16 (
Jc K (.bool false) g2 n9) (
C ZH [v10,.int .i64 0,.int .i64 3,.int .i64 1,.int .u64 7] g2 n9 fun v20 g3 n20=>
Qa v20 (
Jc K (.bool false) g3 n20) (
C ZR [v10,.int .i64 0] g3 n20 fun v24 g4 n24=>
Qb .int .neq v24 (.int .i64 0) fun v25=>
Qa v25 (
Jc K (.bool false) g4 n24) (
C ZB [v10,.int .i64 0] g4 n24 fun v29 g5 n29=>
Xd v29 0 fun v30=>
Xd v29 1 fun v31=>
Jw [.int .i64 0,.int .i64 0,.bool false,.bool false,.int .u64 0,.int .u64 0,.int .u64 0,.int .u64 0,.int .u64 0,.int .u64 0,.int .u64 0,.int .u64 0] .exact g5 n29 fun l3 g6 n3=>
Xn v30 fun cg7=>
cg7.length=12∧Qx g6 l3 0 cg7 fun g7=>
Qb .int .neq v31 (.int .i64 0) fun v33=>
Qa v33 (
Jc K (.bool false) g7 n3) (
kLd g7 l3 (0+0) fun v36=>
Qb .int .neq v36 (.int .i64 10) fun v37=>
Qa v37 (
Jc K (.bool false) g7 n3) (
C ZH [v10,.int .i64 0,.int .i64 3,.int .i64 1,.int .u64 7] g7 n3 fun v41 g8 n41=>
kUn .not v41 fun v42=>
Qa v42 (
Jc K (.bool false) g8 n41) (
C QK [v10,.int .i64 1,.int .i64 3,.int .i64 1] g8 n41 fun v45 g9 n45=>
C ZR [v10,.int .i64 1] g9 n45 fun v47 g10 n47=>
C ZB [v10,.int .i64 0] g10 n47 fun v49 g11 n49=>
C QN [v10,.int .i64 0] g11 n49 fun v51 g12 n51=>
C ZB [v10,.int .i64 1] g12 n51 fun v53 g13 n53=>
C QK [v10,.int .i64 1,.int .i64 3,.int .i64 1] g13 n53 fun v56 g14 n56=>
Xd v56 0 fun v57=>
Xd v56 1 fun v58=>
Qa v58 (
Qb .int .eql v57 (.int .u64 7) fun v62=>
Qa v62 (
C Qad [v10,.int .i64 3] g14 n56 fun v66 g15 n66=>
Xn v66 fun c67=>
ZaZ c67 11 none fun v67=>
Qb .int .eql v67 (.int .u8 3) fun v68=>
Qa v68 (
C Zac [v10,.int .i64 0] g15 n66 fun v72 g16 n72=>
QaN v72 fun v73=>
Qb .int .eql v73 (.int .i64 1) fun v74=>
Qa v74 (
C J3 [v10] g16 n72 fun v78 g17 n78=>
Xn v78 fun c79=>
ZaZ c79 0 none fun v79=>
Qb .int .eql v79 (.int .i64 2) fun v80=>
Jc K v80 g17 n78) (
Jc K (.bool false) g16 n72)) (
Jc K (.bool false) g15 n66)) (
Jc K (.bool false) g14 n56)) (
Jc K (.bool false) g14 n56))))))))
theorem Jbk (C:CT) (g:G) (n:Nat) (K:Cont):QaM C g n K=Zg Tryz.prog C QM [] g n K:=by kernel_rfl
def Z8 (C:CT) (K:Cont) (t:Env) (g:G) (n:Nat):Prop:=
Zd (t 2) fun l46 o46=>
kLd g l46 (o46+5) fun v47=>
C ZbY [t 6,v47] g n fun v48 g6 n48=>
Xd v48 0 fun v49=>
Xd v48 1 fun v50=>
Qb .int .neq v50 (.int .i64 0) fun v52=>
Qa v52 (
Jc K (.tuple #[.pointer none,v50]) g6 n48) (
Zd (t 2) fun l54 o54=>
Zo g6 l54 o54 7 fun c54=>
Qi [.int .i64 0,.int .i64 0,.int .i64 0,.int .i64 0,.int .i64 0,.int .i64 0,.int .i64 0,.slice none 0 0,.slice none 0 0,.pointer none,.int .i64 0] [(0,some 7,.agg c54.toArray),(9,none,v49)] fun c56=>
Xn (.agg c56.toArray) fun c57=>
Jw c57 .exact g6 n48 fun l57 g7 n57=>
C Jac [ptr l57 0] g7 n57 fun v59 g8 n59=>
Jc K (.tuple #[ptr l57 0,.int .i64 0]) g8 n59)
def Zd1 (C:CT) (a0 a1:Value) (g:G) (n:Nat) (K:Cont):Prop:=
Xn a0 fun c2=>
Jw c2 .exact g n fun l2 g1 n2=>
Zo g1 l2 0 7 fun c10=>
C Qbk [.agg c10.toArray] g1 n2 fun v11 g2 n11=>
kUn .not v11 fun v12=>
Qa v12 (
Jc K (.tuple #[.pointer none,.int .i64 1]) g2 n11) (
QaN a1 fun v15=>
Qb .int .neq v15 (.int .i64 0) fun v16=>
Qa v16 (
QaN a1 fun v19=>
kLd g2 l2 (0+1) fun v21=>
Qb .int .neq v19 v21 fun v22=>
Qa v22 (
Jc K (.tuple #[.pointer none,.int .i64 1]) g2 n11) (
kLd g2 l2 (0+1) fun v27=>
kLd g2 l2 (0+2) fun v29=>
C ZaQ [v27,v29] g2 n11 fun v30 g3 n30=>
Xd v30 0 fun v31=>
Xd v30 1 fun v32=>
Qb .int .neq v32 (.int .i64 0) fun v34=>
Qa v34 (
Jc K (.tuple #[.pointer none,v32]) g3 n30) (
QaN a1 fun v37=>
Qb .int .gtr v37 (.int .i64 0) fun v38=>
Qa v38 (
C ZO [v31,a1] g3 n30 fun v41 g4 n41=>
C QZ [v31] g4 n41 fun v43 g5 n43=>
Z8 C K (puts (Qq [a0,a1]) [(2,ptr l2 0),(4,.pointer none),(5,.int .i64 0),(10,.agg c10.toArray),(11,v11),(12,v12),(13,.bool false),(14,a1),(15,v15),(16,v16),(17,.bool true),(18,a1),(19,v19),(20,(ptr l2 (0+1))),(21,v21),(22,v22),(23,v22),(24,v22),(26,(ptr l2 (0+1))),(27,v27),(28,(ptr l2 (0+2))),(29,v29),(30,v30),(25,v30),(31,v31),(32,v32),(6,v31),(7,v32),(33,v32),(34,v34),(36,a1),(37,v37),(38,v38),(39,v31),(40,a1),(41,v41),(42,v31),(43,v43)]) g5 n43) (
Z8 C K (puts (Qq [a0,a1]) [(2,ptr l2 0),(4,.pointer none),(5,.int .i64 0),(10,.agg c10.toArray),(11,v11),(12,v12),(13,.bool false),(14,a1),(15,v15),(16,v16),(17,.bool true),(18,a1),(19,v19),(20,(ptr l2 (0+1))),(21,v21),(22,v22),(23,v22),(24,v22),(26,(ptr l2 (0+1))),(27,v27),(28,(ptr l2 (0+2))),(29,v29),(30,v30),(25,v30),(31,v31),(32,v32),(6,v31),(7,v32),(33,v32),(34,v34),(36,a1),(37,v37),(38,v38)]) g3 n30)))) (
kLd g2 l2 (0+1) fun v27=>
kLd g2 l2 (0+2) fun v29=>
C ZaQ [v27,v29] g2 n11 fun v30 g9 n30=>
Xd v30 0 fun v31=>
Xd v30 1 fun v32=>
Qb .int .neq v32 (.int .i64 0) fun v34=>
Qa v34 (
Jc K (.tuple #[.pointer none,v32]) g9 n30) (
QaN a1 fun v37=>
Qb .int .gtr v37 (.int .i64 0) fun v38=>
Qa v38 (
C ZO [v31,a1] g9 n30 fun v41 g10 n41=>
C QZ [v31] g10 n41 fun v43 g11 n43=>
Z8 C K (puts (Qq [a0,a1]) [(2,ptr l2 0),(4,.pointer none),(5,.int .i64 0),(10,.agg c10.toArray),(11,v11),(12,v12),(13,.bool false),(14,a1),(15,v15),(16,v16),(17,.bool false),(18,undef),(19,undef),(20,undef),(21,undef),(22,undef),(23,.bool false),(24,.bool false),(26,(ptr l2 (0+1))),(27,v27),(28,(ptr l2 (0+2))),(29,v29),(30,v30),(25,v30),(31,v31),(32,v32),(6,v31),(7,v32),(33,v32),(34,v34),(36,a1),(37,v37),(38,v38),(39,v31),(40,a1),(41,v41),(42,v31),(43,v43)]) g11 n43) (
Z8 C K (puts (Qq [a0,a1]) [(2,ptr l2 0),(4,.pointer none),(5,.int .i64 0),(10,.agg c10.toArray),(11,v11),(12,v12),(13,.bool false),(14,a1),(15,v15),(16,v16),(17,.bool false),(18,undef),(19,undef),(20,undef),(21,undef),(22,undef),(23,.bool false),(24,.bool false),(26,(ptr l2 (0+1))),(27,v27),(28,(ptr l2 (0+2))),(29,v29),(30,v30),(25,v30),(31,v31),(32,v32),(6,v31),(7,v32),(33,v32),(34,v34),(36,a1),(37,v37),(38,v38)]) g9 n30))))
theorem ZdE (C:CT) (a0 a1:Value) (g:G) (n:Nat) (K:Cont):Zd1 C a0 a1 g n K=Zg Tryz.prog C Xa2 [a0,a1] g n K:=by kernel_rfl
def Qbg (C:CT) (a0 a1:Value) (g:G) (n:Nat) (K:Cont):Prop:=
Qb .int .lss a1 (.int .i64 1) fun v6=>
Qa v6 (
Jc K (.int .i64 0) g n) (
Qb .int .rem a0 a1 fun v9=>
Qb .int .add v9 a1 fun v11=>
Qb .int .rem v11 a1 fun v13=>
Jc K v13 g n)
theorem XbJ (C:CT) (a0 a1:Value) (g:G) (n:Nat) (K:Cont):Qbg C a0 a1 g n K=Zg Tryz.prog C Xl [a0,a1] g n K:=by kernel_rfl
def Xaw (C:CT) (K:Cont) (I_l1:Zl) (t:Env) (g:G) (n:Nat):Prop:=
Qb .int .lss (t 7) (.int .i64 12) fun v9=>
Qa v9 (
Zd (t 5) fun l13 o13=>
kLd g l13 (o13+1) fun v14=>
Zd (t 5) fun l15 o15=>
kLd g l15 (o15+2) fun v16=>
Zd (t 5) fun l17 o17=>
kLd g l17 (o17+3) fun v18=>
Zd (t 5) fun l19 o19=>
kLd g l19 (o19+4) fun v20=>
C ZH [t 0,v14,v16,v18,v20] g n fun v21 g3 n21=>
Qa v21 (
Jc K (.bool true) g3 n21) (
Zd (t 4) fun l23 o23=>
Zo g3 l23 o23 7 fun c23=>
C XA [t 0,.agg c23.toArray] g3 n21 fun v24 g4 n24=>
Qb .int .add (t 7) (.int .i64 1) fun v11=>
I_l1 (puts t [(8,t 7),(9,v9),(12,t 0),(13,(ptr l13 (o13+1))),(14,v14),(15,(ptr l15 (o15+2))),(16,v16),(17,(ptr l17 (o17+3))),(18,v18),(19,(ptr l19 (o19+4))),(20,v20),(21,v21),(22,t 0),(23,.agg c23.toArray),(24,v24),(10,t 7),(11,v11),(7,v11)]) g4 n24)) (
Jc K (.bool false) g n)
def ZaL (C:CT) (a0 a1 a2:Value) (g:G) (n:Nat) (K:Cont):Prop:=
Xn a1 fun c4=>
Jw c4 .exact g n fun l4 g1 n4=>
Xn a2 fun c5=>
Jw c5 .exact g1 n4 fun l5 g2 n5=>
lfp (Xaw C K) (puts (Qq [a0,a1,a2]) [(4,ptr l4 0),(5,ptr l5 0),(6,.bool false),(7,.int .i64 0)]) g2 n5
theorem Xbe (C:CT) (a0 a1 a2:Value) (g:G) (n:Nat) (K:Cont):ZaL C a0 a1 a2 g n K=Zg Tryz.prog C X5 [a0,a1,a2] g n K:=by kernel_rfl
def Ja6 (C:CT) (a0 a1 a2 a3:Value) (g:G) (n:Nat) (K:Cont):Prop:=
C Jp [a0,a1] g n fun v16 g1 n16=>
Qb .ptr .eql v16 (.pointer none) fun v18=>
Qa v18 (
Jc K (.tuple #[.int .u64 0,.bool false]) g1 n16) (
C Jq [a0,a2] g1 n16 fun v22 g2 n22=>
kUn .not v22 fun v23=>
Qa v23 (
Jc K (.tuple #[.int .u64 0,.bool false]) g2 n22) (
Zp v16 fun v27=>
Zd v27 fun l28 o28=>
kLd g2 l28 (o28+0) fun v29=>
C Jah [v29,a2,a3] g2 n22 fun v32 g3 n32=>
Xd v32 0 fun v33=>
Xd v32 1 fun v34=>
Xd v32 2 fun v35=>
C Xag [v16,v35] g3 n32 fun v38 g4 n38=>
Jc K (.tuple #[v33,v34]) g4 n38))
theorem QbH (C:CT) (a0 a1 a2 a3:Value) (g:G) (n:Nat) (K:Cont):Ja6 C a0 a1 a2 a3 g n K=Zg Tryz.prog C QK [a0,a1,a2,a3] g n K:=by kernel_rfl
def JX (C:CT) (K:Cont) (I_l1:Zl) (t:Env) (g:G) (n:Nat):Prop:=
Qb .int .add (t 4) (.int .i64 1) fun v10=>
I_l1 (puts t [(9,t 4),(10,v10),(4,v10)]) g n
def Zat (C:CT) (K:Cont) (I_l1:Zl) (I_l4:Zl) (t:Env) (g:G) (n:Nat):Prop:=
Zd (t 3) fun l27 o27=>
kLd g l27 (o27+1) fun v28=>
Qb .int .lss (t 6) v28 fun v29=>
Qa v29 (
C Zak [t 0,t 6] g n fun v34 g5 n34=>
C Jab [t 0,t 6] g5 n34 fun v37 g6 n37=>
Qb .int .add (t 6) (.int .i64 1) fun v31=>
I_l4 (puts t [(26,t 6),(27,(ptr l27 (o27+1))),(28,v28),(29,v29),(32,t 0),(33,t 6),(34,v34),(35,t 0),(36,t 6),(37,v37),(30,t 6),(31,v31),(6,v31)]) g6 n37) (
JX C K I_l1 (puts t [(26,t 6),(27,(ptr l27 (o27+1))),(28,v28),(29,v29)]) g n)
def JY (C:CT) (K:Cont) (I_l1:Zl) (t:Env) (g:G) (n:Nat):Prop:=
lfp (Zat C K I_l1) (puts t [(6,.int .i64 0)]) g n
def Jas (C:CT) (K:Cont) (I_l1:Zl) (I_l2:Zl) (t:Env) (g:G) (n:Nat):Prop:=
Zd (t 3) fun l12 o12=>
kLd g l12 (o12+0) fun v13=>
Qb .int .lss (t 5) v13 fun v14=>
Qa v14 (
C ZR [t 0,t 5] g n fun v19 g2 n19=>
C QN [t 0,t 5] g2 n19 fun v22 g3 n22=>
C ZB [t 0,t 5] g3 n22 fun v25 g4 n25=>
Qb .int .add (t 5) (.int .i64 1) fun v16=>
I_l2 (puts t [(11,t 5),(12,(ptr l12 (o12+0))),(13,v13),(14,v14),(17,t 0),(18,t 5),(19,v19),(20,t 0),(21,t 5),(22,v22),(23,t 0),(24,t 5),(25,v25),(15,t 5),(16,v16),(5,v16)]) g4 n25) (
JY C K I_l1 (puts t [(11,t 5),(12,(ptr l12 (o12+0))),(13,v13),(14,v14)]) g n)
def Xas (C:CT) (K:Cont) (I_l1:Zl) (t:Env) (g:G) (n:Nat):Prop:=
Qb .int .lss (t 4) (.int .i64 6) fun v8=>
Qa v8 (
lfp (Jas C K I_l1) (puts t [(7,t 4),(8,v8),(5,.int .i64 0)]) g n) (
Jc K (.tuple #[]) g n)
def QaH (C:CT) (a0 a1:Value) (g:G) (n:Nat) (K:Cont):Prop:=
Xn a1 fun c3=>
Jw c3 .exact g n fun l3 g1 n3=>
lfp (Xas C K) (puts (Qq [a0,a1]) [(3,ptr l3 0),(4,.int .i64 0)]) g1 n3
theorem Jba (C:CT) (a0 a1:Value) (g:G) (n:Nat) (K:Cont):QaH C a0 a1 g n K=Zg Tryz.prog C XA [a0,a1] g n K:=by kernel_rfl
def XaW (C:CT) (a0 a1 a2 a3:Value) (g:G) (n:Nat) (K:Cont):Prop:=
C Jp [a0,a1] g n fun v12 g1 n12=>
Qb .ptr .eql v12 (.pointer none) fun v14=>
Qa v14 (
Jc K (.int .i64 1) g1 n12) (
C Jq [a0,a2] g1 n12 fun v18 g2 n18=>
kUn .not v18 fun v19=>
Qa v19 (
Jc K (.int .i64 1) g2 n18) (
Qb .int .neq a3 (.int .i64 4) fun v23=>
Qa v23 (
Qb .int .neq a3 (.int .i64 5) fun v26=>
Qa v26 (
Jc K (.int .i64 1) g2 n18) (
Zp v12 fun v30=>
Zd v30 fun l31 o31=>
Qi [.int .i64 0,.int .i64 0,.bool false,.bool false,.int .u64 0,.int .u64 0,.int .u64 0,.int .u64 0,.int .u64 0,.int .u64 0,.int .u64 0,.int .u64 0] [(0,none,a3),(1,none,a2)] fun c34=>
C Xm [(ptr l31 (o31+1)),.agg c34.toArray] g2 n18 fun v35 g3 n35=>
Jc K v35 g3 n35)) (
Zp v12 fun v30=>
Zd v30 fun l31 o31=>
Qi [.int .i64 0,.int .i64 0,.bool false,.bool false,.int .u64 0,.int .u64 0,.int .u64 0,.int .u64 0,.int .u64 0,.int .u64 0,.int .u64 0,.int .u64 0] [(0,none,a3),(1,none,a2)] fun c34=>
C Xm [(ptr l31 (o31+1)),.agg c34.toArray] g2 n18 fun v35 g4 n35=>
Jc K v35 g4 n35)))
theorem Qbu (C:CT) (a0 a1 a2 a3:Value) (g:G) (n:Nat) (K:Cont):XaW C a0 a1 a2 a3 g n K=Zg Tryz.prog C Xad [a0,a1,a2,a3] g n K:=by kernel_rfl
def ZaN (C:CT) (a0:Value) (g:G) (n:Nat) (K:Cont):Prop:=
Qb .ptr .eql a0 (.pointer none) fun v4=>
Qa v4 (
Jc K (.slice none 0 0) g n) (
Zp a0 fun v6=>
Zd v6 fun l7 o7=>
kLd g l7 (o7+9) fun v8=>
C Qao [v8] g n fun v9 g1 n9=>
Jc K v9 g1 n9)
theorem Jbm (C:CT) (a0:Value) (g:G) (n:Nat) (K:Cont):ZaN C a0 g n K=Zg Tryz.prog C J6 [a0] g n K:=by kernel_rfl
def QaU (C:CT) (a0 a1:Value) (g:G) (n:Nat) (K:Cont):Prop:=
C Jp [a0,a1] g n fun v8 g1 n8=>
Qb .ptr .eql v8 (.pointer none) fun v10=>
Qa v10 (
Jc K (.slice none 0 0) g1 n8) (
Zp v8 fun v12=>
Zd v12 fun l13 o13=>
kLd g1 l13 (o13+0) fun v14=>
C Jaa [v14] g1 n8 fun v15 g2 n15=>
Jc K v15 g2 n15)
theorem Zbv (C:CT) (a0 a1:Value) (g:G) (n:Nat) (K:Cont):QaU C a0 a1 g n K=Zg Tryz.prog C Zac [a0,a1] g n K:=by kernel_rfl
def ZaT (C:CT) (a0 a1:Value) (g:G) (n:Nat) (K:Cont):Prop:=
Jw [.bool false,.bool false,.int .u64 0,.int .u64 0,.int .u64 0,.int .u64 0,.int .u64 0,.int .u64 0,.int .u64 0,.int .u64 0,.int .i64 0,.int .u8 0,.int .i64 0,.int .i64 0,.int .u8 0] .exact g n fun l4 g1 n4=>
C Jq [a0,a1] g1 n4 fun v7 g2 n7=>
kUn .not v7 fun v8=>
Qa v8 (
C Qbd [] g2 n7 fun v9 g3 n9=>
Xn v9 fun cg4=>
cg4.length=15∧Qx g3 l4 0 cg4 fun g4=>
Zo g4 l4 0 15 fun r0=>
Jc K (.agg r0.toArray) g4 n9) (
Zp a0 fun v11=>
Zd v11 fun l12 o12=>
kLd g2 l12 (o12+8) fun v13=>
Xc v13 a1 15 fun v15=>
Zd v15 fun l16 o16=>
Zo g2 l16 o16 15 fun c16=>
Xn (.agg c16.toArray) fun cg5=>
cg5.length=15∧Qx g2 l4 0 cg5 fun g5=>
Zo g5 l4 0 15 fun r0=>
Jc K (.agg r0.toArray) g5 n7)
theorem Xbt (C:CT) (a0 a1:Value) (g:G) (n:Nat) (K:Cont):ZaT C a0 a1 g n K=Zg Tryz.prog C Qad [a0,a1] g n K:=by kernel_rfl
def ZaK (C:CT) (g:G) (n:Nat) (K:Cont):Prop:=
Jw [.int .i64 0,.int .i64 0,.int .i64 0,.int .i64 0,.int .i64 0,.int .i64 0,.int .i64 0] .exact g n fun l0 g1 n0=>
Qi [.int .i64 0,.int .i64 0,.int .i64 0,.int .i64 0,.int .i64 0,.int .i64 0,.int .i64 0] [(0,none,.int .i64 2),(1,none,.int .i64 6),(2,none,.int .i64 1),(3,none,.int .i64 1),(4,none,.int .i64 2),(5,none,.int .i64 2),(6,none,.int .i64 2)] fun c1=>
Xn (.agg c1.toArray) fun cg2=>
cg2.length=7∧Qx g1 l0 0 cg2 fun g2=>
Zo g2 l0 0 7 fun r0=>
Jc K (.agg r0.toArray) g2 n0
theorem Jbg (C:CT) (g:G) (n:Nat) (K:Cont):ZaK C g n K=Zg Tryz.prog C Q7 [] g n K:=by kernel_rfl
def JaS (C:CT) (a0 a1 a2 a3 a4:Value) (g:G) (n:Nat) (K:Cont):Prop:=
C Jp [a0,a1] g n fun v16 g1 n16=>
Qb .ptr .eql v16 (.pointer none) fun v18=>
Qa v18 (
Jc K (.bool false) g1 n16) (
C Jq [a0,a2] g1 n16 fun v22 g2 n22=>
kUn .not v22 fun v23=>
Qa v23 (
Jc K (.bool false) g2 n22) (
Zp v16 fun v27=>
Zd v27 fun l28 o28=>
kLd g2 l28 (o28+0) fun v29=>
C Xab [v29,a2,a3,a4] g2 n22 fun v33 g3 n33=>
Xd v33 0 fun v34=>
Xd v33 1 fun v35=>
C Xag [v16,v35] g3 n33 fun v38 g4 n38=>
Jc K v34 g4 n38))
theorem Qbv (C:CT) (a0 a1 a2 a3 a4:Value) (g:G) (n:Nat) (K:Cont):JaS C a0 a1 a2 a3 a4 g n K=Zg Tryz.prog C ZH [a0,a1,a2,a3,a4] g n K:=by kernel_rfl
def Jbw (C:CT) (a0 a1:Value) (g:G) (n:Nat) (K:Cont):Prop:=
C Jp [a0,a1] g n fun v13 g1 n13=>
Qb .ptr .eql v13 (.pointer none) fun v15=>
Qa v15 (
Jc K (.int .i64 1) g1 n13) (
Zp v13 fun v18=>
Zd v18 fun l19 o19=>
C JR [(ptr l19 (o19+1))] g1 n13 fun v20 g2 n20=>
Xd v20 0 fun v21=>
Xd v20 1 fun v22=>
Jw [.int .i64 0,.int .i64 0,.bool false,.bool false,.int .u64 0,.int .u64 0,.int .u64 0,.int .u64 0,.int .u64 0,.int .u64 0,.int .u64 0,.int .u64 0] .exact g2 n20 fun l6 g3 n6=>
Xn v21 fun cg4=>
cg4.length=12∧Qx g3 l6 0 cg4 fun g4=>
kUn .not v22 fun v25=>
Qa v25 (
Jc K (.int .i64 14) g4 n6) (
Zp a0 fun v28=>
Zd v28 fun l29 o29=>
kLd g4 l29 (o29+8) fun v30=>
kLd g4 l6 (0+1) fun v32=>
Xc v30 v32 15 fun v33=>
Zd v33 fun l34 o34=>
kLd g4 l34 (o34+12) fun v35=>
Qb .int .neq v35 (.int .i64 0) fun v36=>
Qa v36 (
Jc K (.int .i64 15) g4 n6) (
kLd g4 l6 (0+1) fun v39=>
C Jak [a0,v39] g4 n6 fun v40 g5 n40=>
Zp a0 fun v43=>
Zd v43 fun l44 o44=>
kLd g5 l44 (o44+8) fun v45=>
kLd g5 l6 (0+1) fun v47=>
Xc v45 v47 15 fun v48=>
Zd v48 fun l49 o49=>
Zo g5 l49 o49 15 fun c49=>
Zo g5 l6 0 12 fun c51=>
(C Jbr [.agg c49.toArray,a1,.agg c51.toArray] g5 n40 fun v52 g6 n52=>
Xd v52 0 fun v53=>
Xd v52 1 fun v54=>
Xd v52 2 fun v55=>
Jw [.bool false,.bool false,.int .u64 0,.int .u64 0,.int .u64 0,.int .u64 0,.int .u64 0,.int .u64 0,.int .u64 0,.int .u64 0,.int .i64 0,.int .u8 0,.int .i64 0,.int .i64 0,.int .u8 0] .exact g6 n52 fun l8 g7 n8=>
(Zd (ptr l44 (o44+8)) fun l _=>g7 l=g6 l)∧(Zd (ptr l6 (0+1)) fun l _=>g7 l=g6 l)∧(Zd v48 fun l _=>g7 l=g6 l)∧(Zd (ptr l6 0) fun l _=>g7 l=g6 l)∧Xn v53 fun cg8=>
cg8.length=15∧Qx g7 l8 0 cg8 fun g8=>
Qb .int .neq v55 (.int .i64 0) fun v57=>
Qa v57 (
Jc K v55 g8 n8) (
Zp v13 fun v60=>
Zd v60 fun l61 o61=>
C Qr [(ptr l61 (o61+1))] g8 n8 fun v62 g9 n62=>
Zp a0 fun v64=>
Zd v64 fun l65 o65=>
kLd g9 l65 (o65+8) fun v66=>
kLd g9 l6 (0+1) fun v68=>
Zo g9 l8 0 15 fun c69=>
Xc v66 v68 15 fun v70=>
Zd v70 fun lg10 og10=>
Xn (.agg c69.toArray) fun cg10=>
cg10.length=15∧Qx g9 lg10 og10 cg10 fun g10=>
kLd g10 l6 (0+1) fun v74=>
C Jk [a0,v54,v74] g10 n62 fun v75 g11 n75=>
Jc K (.int .i64 0) g11 n75))∧(Jw [.bool false,.bool false,.int .u64 0,.int .u64 0,.int .u64 0,.int .u64 0,.int .u64 0,.int .u64 0,.int .u64 0,.int .u64 0,.int .i64 0,.int .u8 0,.int .i64 0,.int .i64 0,.int .u8 0] .exact g5 n40 fun l8 g12 n8=>
(Zd (ptr l44 (o44+8)) fun l _=>g12 l=g5 l)∧(Zd (ptr l6 (0+1)) fun l _=>g12 l=g5 l)∧(Zd v48 fun l _=>g12 l=g5 l)∧(Zd (ptr l6 0) fun l _=>g12 l=g5 l)∧C Jbr [.agg c49.toArray,a1,.agg c51.toArray] g12 n8 fun v52 g13 n52=>
Xd v52 0 fun v53=>
Xd v52 1 fun v54=>
Xd v52 2 fun v55=>
Xn v53 fun cg14=>
cg14.length=15∧Qx g13 l8 0 cg14 fun g14=>
Qb .int .neq v55 (.int .i64 0) fun v57=>
Qa v57 (
Jc K v55 g14 n52) (
Zp v13 fun v60=>
Zd v60 fun l61 o61=>
C Qr [(ptr l61 (o61+1))] g14 n52 fun v62 g15 n62=>
Zp a0 fun v64=>
Zd v64 fun l65 o65=>
kLd g15 l65 (o65+8) fun v66=>
kLd g15 l6 (0+1) fun v68=>
Zo g15 l8 0 15 fun c69=>
Xc v66 v68 15 fun v70=>
Zd v70 fun lg16 og16=>
Xn (.agg c69.toArray) fun cg16=>
cg16.length=15∧Qx g15 lg16 og16 cg16 fun g16=>
kLd g16 l6 (0+1) fun v74=>
C Jk [a0,v54,v74] g16 n62 fun v75 g17 n75=>
Jc K (.int .i64 0) g17 n75)))))
theorem Qb0 (C:CT) (a0 a1:Value) (g:G) (n:Nat) (K:Cont):Jbw C a0 a1 g n K=Zg Tryz.prog C ZR [a0,a1] g n K:=by kernel_rfl
def JaG (C:CT) (K:Cont) (t:Env) (g:G) (n:Nat):Prop:=
Zd (t 7) fun l50 o50=>
Zo g l50 o50 12 fun c50=>
Zd (t 4) fun lg12 og12=>
Xn (.agg c50.toArray) fun cg12=>
cg12.length=12∧Qx g lg12 og12 cg12 fun g12=>
Zd (t 4) fun lr0 or0=>
Zo g12 lr0 or0 12 fun r0=>
Jc K (.tuple #[.agg r0.toArray,t 10]) g12 n
def XaH (C:CT) (K:Cont) (I_l1:Zl) (t:Env) (g:G) (n:Nat):Prop:=
Qb .int .lss (t 40) (t 39) fun v41=>
Qa v41 (
Xc (t 38) (t 40) 12 fun v42=>
Zd v42 fun l43 o43=>
Zo g l43 o43 12 fun c43=>
Jw [.int .i64 0,.int .i64 0,.bool false,.bool false,.int .u64 0,.int .u64 0,.int .u64 0,.int .u64 0,.int .u64 0,.int .u64 0,.int .u64 0,.int .u64 0] .exact g n fun l12 g9 n12=>
Xn (.agg c43.toArray) fun cg10=>
cg10.length=12∧Qx g9 l12 0 cg10 fun g10=>
Zp (t 6) fun v45=>
Zd v45 fun l46 o46=>
Zo g10 l12 0 12 fun c47=>
C Xm [(ptr l46 (o46+2)),.agg c47.toArray] g10 n12 fun v48 g11 n48=>
Qb .int .add (t 40) (.int .i64 1) fun v49=>
I_l1 (puts t [(41,v41),(42,v42),(43,.agg c43.toArray),(12,ptr l12 0),(44,t 6),(45,v45),(46,(ptr l46 (o46+2))),(47,.agg c47.toArray),(48,v48),(49,v49),(40,v49)]) g11 n48) (
JaG C K (puts t [(41,v41)]) g n)
def Xa4 (C:CT) (a0 a1:Value) (g:G) (n:Nat) (K:Cont):Prop:=
Jw [.int .i64 0,.int .i64 0,.bool false,.bool false,.int .u64 0,.int .u64 0,.int .u64 0,.int .u64 0,.int .u64 0,.int .u64 0,.int .u64 0,.int .u64 0] .exact g n fun l4 g1 n4=>
C Jp [a0,a1] g1 n4 fun v15 g2 n15=>
Qb .ptr .eql v15 (.pointer none) fun v17=>
Qa v17 (
Qi [.int .i64 0,.int .i64 0,.bool false,.bool false,.int .u64 0,.int .u64 0,.int .u64 0,.int .u64 0,.int .u64 0,.int .u64 0,.int .u64 0,.int .u64 0] [] fun c18=>
Xn (.agg c18.toArray) fun cg3=>
cg3.length=12∧Qx g2 l4 0 cg3 fun g3=>
Zo g3 l4 0 12 fun r0=>
Jc K (.tuple #[.agg r0.toArray,.int .i64 1]) g3 n15) (
Zp v15 fun v21=>
Zd v21 fun l22 o22=>
C Qr [(ptr l22 (o22+3))] g2 n15 fun v23 g4 n23=>
Xd v23 0 fun v24=>
Xd v23 1 fun v25=>
Jw [.int .i64 0,.int .i64 0,.bool false,.bool false,.int .u64 0,.int .u64 0,.int .u64 0,.int .u64 0,.int .u64 0,.int .u64 0,.int .u64 0,.int .u64 0] .exact g4 n23 fun l7 g5 n7=>
Xn v24 fun cg6=>
cg6.length=12∧Qx g5 l7 0 cg6 fun g6=>
kUn .not v25 fun v27=>
Qa v27 (
Qi [.int .i64 0,.int .i64 0,.bool false,.bool false,.int .u64 0,.int .u64 0,.int .u64 0,.int .u64 0,.int .u64 0,.int .u64 0,.int .u64 0,.int .u64 0] [] fun c28=>
Xn (.agg c28.toArray) fun cg7=>
cg7.length=12∧Qx g6 l4 0 cg7 fun g7=>
Zo g7 l4 0 12 fun r0=>
Jc K (.tuple #[.agg r0.toArray,.int .i64 14]) g7 n7) (
Zp v15 fun v31=>
Zd v31 fun l32 o32=>
kLd g6 l32 (o32+0) fun v33=>
Zo g6 l7 0 12 fun c34=>
C Jaj [v33,.agg c34.toArray] g6 n7 fun v35 g8 n35=>
Xd v35 0 fun v36=>
Xd v35 1 fun v37=>
QaN v36 fun v39=>
lfp (XaH C K) (puts (Qq [a0,a1]) [(4,ptr l4 0),(5,.int .i64 0),(13,a0),(14,a1),(15,v15),(6,v15),(16,v15),(17,v17),(20,v15),(21,v21),(22,(ptr l22 (o22+3))),(23,v23),(19,v23),(24,v24),(25,v25),(7,ptr l7 0),(8,v25),(26,v25),(27,v27),(30,v15),(31,v31),(32,(ptr l32 (o32+0))),(33,v33),(34,.agg c34.toArray),(35,v35),(29,v35),(36,v36),(37,v37),(9,v36),(10,v37),(38,v36),(39,v39),(40,.int .i64 0)]) g8 n35))
theorem ZbF (C:CT) (a0 a1:Value) (g:G) (n:Nat) (K:Cont):Xa4 C a0 a1 g n K=Zg Tryz.prog C ZB [a0,a1] g n K:=by kernel_rfl
def XaN (C:CT) (a0 a1:Value) (g:G) (n:Nat) (K:Cont):Prop:=
C Jp [a0,a1] g n fun v13 g1 n13=>
Qb .ptr .eql v13 (.pointer none) fun v15=>
Qa v15 (
Jc K (.int .i64 1) g1 n13) (
Zp v13 fun v18=>
Zd v18 fun l19 o19=>
C Qr [(ptr l19 (o19+2))] g1 n13 fun v20 g2 n20=>
Xd v20 0 fun v21=>
Xd v20 1 fun v22=>
Jw [.int .i64 0,.int .i64 0,.bool false,.bool false,.int .u64 0,.int .u64 0,.int .u64 0,.int .u64 0,.int .u64 0,.int .u64 0,.int .u64 0,.int .u64 0] .exact g2 n20 fun l6 g3 n6=>
Xn v21 fun cg4=>
cg4.length=12∧Qx g3 l6 0 cg4 fun g4=>
kUn .not v22 fun v24=>
Qa v24 (
Jc K (.int .i64 14) g4 n6) (
Zp a0 fun v27=>
Zd v27 fun l28 o28=>
kLd g4 l28 (o28+8) fun v29=>
kLd g4 l6 (0+1) fun v31=>
Xc v29 v31 15 fun v32=>
Zd v32 fun l33 o33=>
Zo g4 l33 o33 15 fun c33=>
Zo g4 l6 0 12 fun c35=>
(C ZaB [.agg c33.toArray,a1,.agg c35.toArray] g4 n6 fun v36 g5 n36=>
Xd v36 0 fun v37=>
Xd v36 1 fun v38=>
Xd v36 2 fun v39=>
Jw [.bool false,.bool false,.int .u64 0,.int .u64 0,.int .u64 0,.int .u64 0,.int .u64 0,.int .u64 0,.int .u64 0,.int .u64 0,.int .i64 0,.int .u8 0,.int .i64 0,.int .i64 0,.int .u8 0] .exact g5 n36 fun l8 g6 n8=>
(Zd (ptr l28 (o28+8)) fun l _=>g6 l=g5 l)∧(Zd (ptr l6 (0+1)) fun l _=>g6 l=g5 l)∧(Zd v32 fun l _=>g6 l=g5 l)∧(Zd (ptr l6 0) fun l _=>g6 l=g5 l)∧Xn v37 fun cg7=>
cg7.length=15∧Qx g6 l8 0 cg7 fun g7=>
Qb .int .neq v39 (.int .i64 0) fun v41=>
Qa v41 (
Jc K v39 g7 n8) (
Zp a0 fun v44=>
Zd v44 fun l45 o45=>
kLd g7 l45 (o45+8) fun v46=>
kLd g7 l6 (0+1) fun v48=>
Zo g7 l8 0 15 fun c49=>
Xc v46 v48 15 fun v50=>
Zd v50 fun lg8 og8=>
Xn (.agg c49.toArray) fun cg8=>
cg8.length=15∧Qx g7 lg8 og8 cg8 fun g8=>
kLd g8 l6 (0+1) fun v54=>
C Jk [a0,v38,v54] g8 n8 fun v55 g9 n55=>
Jc K (.int .i64 0) g9 n55))∧(Jw [.bool false,.bool false,.int .u64 0,.int .u64 0,.int .u64 0,.int .u64 0,.int .u64 0,.int .u64 0,.int .u64 0,.int .u64 0,.int .i64 0,.int .u8 0,.int .i64 0,.int .i64 0,.int .u8 0] .exact g4 n6 fun l8 g10 n8=>
(Zd (ptr l28 (o28+8)) fun l _=>g10 l=g4 l)∧(Zd (ptr l6 (0+1)) fun l _=>g10 l=g4 l)∧(Zd v32 fun l _=>g10 l=g4 l)∧(Zd (ptr l6 0) fun l _=>g10 l=g4 l)∧C ZaB [.agg c33.toArray,a1,.agg c35.toArray] g10 n8 fun v36 g11 n36=>
Xd v36 0 fun v37=>
Xd v36 1 fun v38=>
Xd v36 2 fun v39=>
Xn v37 fun cg12=>
cg12.length=15∧Qx g11 l8 0 cg12 fun g12=>
Qb .int .neq v39 (.int .i64 0) fun v41=>
Qa v41 (
Jc K v39 g12 n36) (
Zp a0 fun v44=>
Zd v44 fun l45 o45=>
kLd g12 l45 (o45+8) fun v46=>
kLd g12 l6 (0+1) fun v48=>
Zo g12 l8 0 15 fun c49=>
Xc v46 v48 15 fun v50=>
Zd v50 fun lg13 og13=>
Xn (.agg c49.toArray) fun cg13=>
cg13.length=15∧Qx g12 lg13 og13 cg13 fun g13=>
kLd g13 l6 (0+1) fun v54=>
C Jk [a0,v38,v54] g13 n36 fun v55 g14 n55=>
Jc K (.int .i64 0) g14 n55))))
theorem Xbh (C:CT) (a0 a1:Value) (g:G) (n:Nat) (K:Cont):XaN C a0 a1 g n K=Zg Tryz.prog C QN [a0,a1] g n K:=by kernel_rfl
def QaK (C:CT) (a0:Value) (g:G) (n:Nat) (K:Cont):Prop:=
Jw [.int .i64 0,.int .i64 0,.int .i64 0,.int .i64 0,.int .i64 0,.int .i64 0,.int .i64 0] .exact g n fun l2 g1 n2=>
Qb .ptr .eql a0 (.pointer none) fun v4=>
Qa v4 (
Qi [.int .i64 0,.int .i64 0,.int .i64 0,.int .i64 0,.int .i64 0,.int .i64 0,.int .i64 0] [] fun c5=>
Xn (.agg c5.toArray) fun cg2=>
cg2.length=7∧Qx g1 l2 0 cg2 fun g2=>
Zo g2 l2 0 7 fun r0=>
Jc K (.agg r0.toArray) g2 n2) (
Zp a0 fun v7=>
Zd v7 fun l8 o8=>
Zo g1 l8 (o8+0) 7 fun c9=>
Xn (.agg c9.toArray) fun cg3=>
cg3.length=7∧Qx g1 l2 0 cg3 fun g3=>
Zo g3 l2 0 7 fun r0=>
Jc K (.agg r0.toArray) g3 n2)
theorem Jbh (C:CT) (a0:Value) (g:G) (n:Nat) (K:Cont):QaK C a0 g n K=Zg Tryz.prog C J3 [a0] g n K:=by kernel_rfl
def Jdx (C:CT) (a0:Value) (g:G) (n:Nat) (K:Cont):Prop:=
Xn a0 fun c1=>
Jw c1 .exact g n fun l1 g1 n1=>
kLd g1 l1 (0+3) fun v5=>
Qb .int .eql v5 (.int .i64 1) fun v6=>
Qa v6 (
kLd g1 l1 (0+0) fun v23=>
C Qe [v23,.int .i64 1,.int .i64 8] g1 n1 fun v24 g2 n24=>
Qa v24 (
kLd g2 l1 (0+1) fun v27=>
C Qe [v27,.int .i64 2,.int .i64 64] g2 n24 fun v28 g3 n28=>
Qa v28 (
kLd g3 l1 (0+2) fun v32=>
kLd g3 l1 (0+1) fun v34=>
Qb .int .sub v34 (.int .i64 1) fun v35=>
C Qe [v32,.int .i64 1,v35] g3 n28 fun v36 g4 n36=>
Qa v36 (
kLd g4 l1 (0+4) fun v43=>
C Qe [v43,.int .i64 1,.int .i64 8] g4 n36 fun v44 g5 n44=>
Qa v44 (
kLd g5 l1 (0+5) fun v48=>
C Qe [v48,.int .i64 1,.int .i64 16] g5 n44 fun v49 g6 n49=>
Qa v49 (
kLd g6 l1 (0+6) fun v53=>
C Qe [v53,.int .i64 1,.int .i64 16] g6 n49 fun v54 g7 n54=>
Jc K v54 g7 n54) (
Jc K (.bool false) g6 n49)) (
Jc K (.bool false) g5 n44)) (
Jc K (.bool false) g4 n36)) (
Jc K (.bool false) g3 n28)) (
Jc K (.bool false) g2 n24)) (
kLd g1 l1 (0+3) fun v9=>
Qb .int .eql v9 (.int .i64 2) fun v10=>
Qa v10 (
kLd g1 l1 (0+0) fun v23=>
C Qe [v23,.int .i64 1,.int .i64 8] g1 n1 fun v24 g8 n24=>
Qa v24 (
kLd g8 l1 (0+1) fun v27=>
C Qe [v27,.int .i64 2,.int .i64 64] g8 n24 fun v28 g9 n28=>
Qa v28 (
kLd g9 l1 (0+2) fun v32=>
kLd g9 l1 (0+1) fun v34=>
Qb .int .sub v34 (.int .i64 1) fun v35=>
C Qe [v32,.int .i64 1,v35] g9 n28 fun v36 g10 n36=>
Qa v36 (
kLd g10 l1 (0+4) fun v43=>
C Qe [v43,.int .i64 1,.int .i64 8] g10 n36 fun v44 g11 n44=>
Qa v44 (
kLd g11 l1 (0+5) fun v48=>
C Qe [v48,.int .i64 1,.int .i64 16] g11 n44 fun v49 g12 n49=>
Qa v49 (
kLd g12 l1 (0+6) fun v53=>
C Qe [v53,.int .i64 1,.int .i64 16] g12 n49 fun v54 g13 n54=>
Jc K v54 g13 n54) (
Jc K (.bool false) g12 n49)) (
Jc K (.bool false) g11 n44)) (
Jc K (.bool false) g10 n36)) (
Jc K (.bool false) g9 n28)) (
Jc K (.bool false) g8 n24)) (
kLd g1 l1 (0+3) fun v14=>
Qb .int .eql v14 (.int .i64 4) fun v15=>
Qa v15 (
kLd g1 l1 (0+0) fun v23=>
C Qe [v23,.int .i64 1,.int .i64 8] g1 n1 fun v24 g14 n24=>
Qa v24 (
kLd g14 l1 (0+1) fun v27=>
C Qe [v27,.int .i64 2,.int .i64 64] g14 n24 fun v28 g15 n28=>
Qa v28 (
kLd g15 l1 (0+2) fun v32=>
kLd g15 l1 (0+1) fun v34=>
Qb .int .sub v34 (.int .i64 1) fun v35=>
C Qe [v32,.int .i64 1,v35] g15 n28 fun v36 g16 n36=>
Qa v36 (
kLd g16 l1 (0+4) fun v43=>
C Qe [v43,.int .i64 1,.int .i64 8] g16 n36 fun v44 g17 n44=>
Qa v44 (
kLd g17 l1 (0+5) fun v48=>
C Qe [v48,.int .i64 1,.int .i64 16] g17 n44 fun v49 g18 n49=>
Qa v49 (
kLd g18 l1 (0+6) fun v53=>
C Qe [v53,.int .i64 1,.int .i64 16] g18 n49 fun v54 g19 n54=>
Jc K v54 g19 n54) (
Jc K (.bool false) g18 n49)) (
Jc K (.bool false) g17 n44)) (
Jc K (.bool false) g16 n36)) (
Jc K (.bool false) g15 n28)) (
Jc K (.bool false) g14 n24)) (
kLd g1 l1 (0+3) fun v19=>
Qb .int .eql v19 (.int .i64 8) fun v20=>
kLd g1 l1 (0+0) fun v23=>
C Qe [v23,.int .i64 1,.int .i64 8] g1 n1 fun v24 g20 n24=>
Qa v24 (
kLd g20 l1 (0+1) fun v27=>
C Qe [v27,.int .i64 2,.int .i64 64] g20 n24 fun v28 g21 n28=>
Qa v28 (
kLd g21 l1 (0+2) fun v32=>
kLd g21 l1 (0+1) fun v34=>
Qb .int .sub v34 (.int .i64 1) fun v35=>
C Qe [v32,.int .i64 1,v35] g21 n28 fun v36 g22 n36=>
Qa v36 (
Qa v20 (
kLd g22 l1 (0+4) fun v43=>
C Qe [v43,.int .i64 1,.int .i64 8] g22 n36 fun v44 g23 n44=>
Qa v44 (
kLd g23 l1 (0+5) fun v48=>
C Qe [v48,.int .i64 1,.int .i64 16] g23 n44 fun v49 g24 n49=>
Qa v49 (
kLd g24 l1 (0+6) fun v53=>
C Qe [v53,.int .i64 1,.int .i64 16] g24 n49 fun v54 g25 n54=>
Jc K v54 g25 n54) (
Jc K (.bool false) g24 n49)) (
Jc K (.bool false) g23 n44)) (
Jc K (.bool false) g22 n36)) (
Jc K (.bool false) g22 n36)) (
Jc K (.bool false) g21 n28)) (
Jc K (.bool false) g20 n24))))
theorem Xdr (C:CT) (a0:Value) (g:G) (n:Nat) (K:Cont):Jdx C a0 g n K=Zg Tryz.prog C Qbk [a0] g n K:=by kernel_rfl
def QeL (C:CT) (a0 a1:Value) (g:G) (n:Nat) (K:Cont):Prop:=
Qb .int .lss a0 (.int .i64 2) fun v7=>
Qa v7 (
Jc K (.tuple #[.pointer none,.int .i64 1]) g n) (
Qb .int .gtr a0 (.int .i64 64) fun v10=>
Qa v10 (
Jc K (.tuple #[.pointer none,.int .i64 1]) g n) (
Qb .int .lss a1 (.int .i64 1) fun v14=>
Qa v14 (
Jc K (.tuple #[.pointer none,.int .i64 1]) g n) (
Qb .int .sub a0 (.int .i64 1) fun v19=>
Qb .int .gtr a1 v19 fun v20=>
Qa v20 (
Jc K (.tuple #[.pointer none,.int .i64 1]) g n) (
QbD a0 a0 [.int .u64 0,.int .u64 0,.int .u64 0,.int .u64 0,.int .u64 0,.int .u64 0,.int .u64 0,.int .u64 0] 64 g n fun v23 g1 n23=>
Qi [.slice none 0 0,.int .i64 0,.int .i64 0,.int .i64 0] [(0,none,v23),(1,none,a1)] fun c25=>
Xn (.agg c25.toArray) fun c26=>
Jw c26 .exact g1 n23 fun l26 g2 n26=>
Jc K (.tuple #[ptr l26 0,.int .i64 0]) g2 n26))))
theorem Jer (C:CT) (a0 a1:Value) (g:G) (n:Nat) (K:Cont):QeL C a0 a1 g n K=Zg Tryz.prog C ZaQ [a0,a1] g n K:=by kernel_rfl
def XaK (C:CT) (a0 a1:Value) (g:G) (n:Nat) (K:Cont):Prop:=
Qb .ptr .eql a0 (.pointer none) fun v6=>
Qa v6 (
Jc K (.int .i64 1) g n) (
QaN a1 fun v9=>
Zp a0 fun v11=>
Zd v11 fun l12 o12=>
kLd g l12 (o12+0) fun v13=>
QaN v13 fun v14=>
Qb .int .neq v9 v14 fun v15=>
Qa v15 (
Jc K (.int .i64 1) g n) (
Zp a0 fun v18=>
Zd v18 fun l19 o19=>
kLd g l19 (o19+0) fun v20=>
Qbj v20 a1 8 g fun v22 g1=>
Jc K (.int .i64 0) g1 n))
theorem Xbm (C:CT) (a0 a1:Value) (g:G) (n:Nat) (K:Cont):XaK C a0 a1 g n K=Zg Tryz.prog C ZO [a0,a1] g n K:=by kernel_rfl
def Xbj (C:CT) (a0:Value) (g:G) (n:Nat) (K:Cont):Prop:=
Qb .ptr .neq a0 (.pointer none) fun v3=>
Qa v3 (
Zp a0 fun v5=>
Zd v5 fun l6 o6=>
kLd g l6 (o6+0) fun v7=>
Zp a0 fun v9=>
Zd v9 fun l10 o10=>
kLd g l10 (o10+1) fun v11=>
Ju v7 none (some v11) none 8 fun v12=>
Zaw v12 [.int .u64 0,.int .u64 0,.int .u64 0,.int .u64 0,.int .u64 0,.int .u64 0,.int .u64 0,.int .u64 0] g fun v_ g1=>
Jc K (.tuple #[]) g1 n) (
Jc K (.tuple #[]) g n)
theorem ZbX (C:CT) (a0:Value) (g:G) (n:Nat) (K:Cont):Xbj C a0 g n K=Zg Tryz.prog C QZ [a0] g n K:=by kernel_rfl
def Jfe (C:CT) (a0 a1:Value) (g:G) (n:Nat) (K:Cont):Prop:=
Qb .ptr .eql a0 (.pointer none) fun v7=>
Qa v7 (
Jc K (.tuple #[.pointer none,.int .i64 1]) g n) (
Qb .int .lss a1 (.int .i64 1) fun v10=>
Qa v10 (
Jc K (.tuple #[.pointer none,.int .i64 1]) g n) (
Qb .int .gtr a1 (.int .i64 16) fun v14=>
Qa v14 (
Jc K (.tuple #[.pointer none,.int .i64 1]) g n) (
Qi [.pointer none,.int .i64 0,.slice none 0 0] [(0,none,a0),(1,none,a1)] fun c18=>
Xn (.agg c18.toArray) fun c19=>
Jw c19 .exact g n fun l19 g1 n19=>
Jc K (.tuple #[ptr l19 0,.int .i64 0]) g1 n19)))
theorem Jeo (C:CT) (a0 a1:Value) (g:G) (n:Nat) (K:Cont):Jfe C a0 a1 g n K=Zg Tryz.prog C ZbY [a0,a1] g n K:=by kernel_rfl
def Xay (C:CT) (K:Cont) (I_l3:Zl) (t:Env) (g:G) (n:Nat):Prop:=
Qb .int .lss (t 57) (t 56) fun v58=>
Qa v58 (
Zp (t 0) fun v61=>
Zd v61 fun l62 o62=>
kLd g l62 (o62+8) fun v63=>
C Qbd [] g n fun v65 g7 n65=>
(Zd (ptr l62 (o62+8)) fun l _=>g7 l=g l)∧Xc v63 (t 57) 15 fun v66=>
Zd v66 fun lg8 og8=>
Xn v65 fun cg8=>
cg8.length=15∧Qx g7 lg8 og8 cg8 fun g8=>
Qb .int .add (t 57) (.int .i64 1) fun v67=>
I_l3 (puts t [(58,v58),(59,t 57),(3,t 57),(60,t 0),(61,v61),(62,(ptr l62 (o62+8))),(63,v63),(64,t 57),(65,v65),(66,v66),(67,v67),(57,v67)]) g8 n65) (
Jc K (.tuple #[]) g n)
def Zad (C:CT) (K:Cont) (t:Env) (g:G) (n:Nat):Prop:=
Zp (t 0) fun v45=>
Zd v45 fun l46 o46=>
kLd g l46 (o46+0+1) fun v48=>
QbD v48 v48 [.bool false,.bool false,.int .u64 0,.int .u64 0,.int .u64 0,.int .u64 0,.int .u64 0,.int .u64 0,.int .u64 0,.int .u64 0,.int .i64 0,.int .u8 0,.int .i64 0,.int .i64 0,.int .u8 0] 112 g n fun v49 g5 n49=>
Zp (t 0) fun v50=>
Zd v50 fun l51 o51=>
kSt g5 l51 (o51+8) v49 fun g6=>
Zp (t 0) fun v53=>
Zd v53 fun l54 o54=>
kLd g6 l54 (o54+8) fun v55=>
QaN v55 fun v56=>
lfp (Xay C K) (puts t [(43,t 0),(44,t 0),(45,v45),(46,(ptr l46 (o46+0))),(47,(ptr l46 (o46+0+1))),(48,v48),(49,v49),(50,v50),(51,(ptr l51 (o51+8))),(52,t 0),(53,v53),(54,(ptr l54 (o54+8))),(55,v55),(56,v56),(57,.int .i64 0)]) g6 n49
def Jay (C:CT) (K:Cont) (I_l1:Zl) (t:Env) (g:G) (n:Nat):Prop:=
Qb .int .lss (t 18) (t 17) fun v19=>
Qa v19 (
Zp (t 0) fun v23=>
Zd v23 fun l24 o24=>
kLd g l24 (o24+7) fun v25=>
Zp (t 0) fun v28=>
Zd v28 fun l29 o29=>
kLd g l29 (o29+0+3) fun v31=>
Zp (t 0) fun v33=>
Zd v33 fun l34 o34=>
kLd g l34 (o34+0+4) fun v36=>
C Qbl [v31,v36] g n fun v37 g3 n37=>
(Zd (ptr l24 (o24+7)) fun l _=>g3 l=g l)∧Xd v37 0 fun v38=>
Xd v37 1 fun v39=>
Xc v25 (t 18) 4 fun v40=>
Zd v40 fun l41 o41=>
kSt g3 l41 (o41+0) v38 fun g4=>
Qb .int .add (t 18) (.int .i64 1) fun v42=>
I_l1 (puts t [(19,v19),(20,t 18),(2,t 18),(22,t 0),(23,v23),(24,(ptr l24 (o24+7))),(25,v25),(26,t 18),(27,t 0),(28,v28),(29,(ptr l29 (o29+0))),(30,(ptr l29 (o29+0+3))),(31,v31),(32,t 0),(33,v33),(34,(ptr l34 (o34+0))),(35,(ptr l34 (o34+0+4))),(36,v36),(37,v37),(21,v37),(38,v38),(39,v39),(40,v40),(41,(ptr l41 (o41+0))),(42,v42),(18,v42)]) g4 n37) (
Zad C K (puts t [(19,v19)]) g n)
def XaR (C:CT) (a0:Value) (g:G) (n:Nat) (K:Cont):Prop:=
Zp a0 fun v6=>
Zd v6 fun l7 o7=>
kLd g l7 (o7+0+0) fun v9=>
QbD v9 v9 [.pointer none,.slice none 0 0,.slice none 0 0,.slice none 0 0] 80 g n fun v10 g1 n10=>
Zp a0 fun v11=>
Zd v11 fun l12 o12=>
kSt g1 l12 (o12+7) v10 fun g2=>
Zp a0 fun v14=>
Zd v14 fun l15 o15=>
kLd g2 l15 (o15+7) fun v16=>
QaN v16 fun v17=>
lfp (Jay C K) (puts (Qq [a0]) [(4,a0),(5,a0),(6,v6),(7,(ptr l7 (o7+0))),(8,(ptr l7 (o7+0+0))),(9,v9),(10,v10),(11,v11),(12,(ptr l12 (o12+7))),(13,a0),(14,v14),(15,(ptr l15 (o15+7))),(16,v16),(17,v17),(18,.int .i64 0)]) g2 n10
theorem Jbv (C:CT) (a0:Value) (g:G) (n:Nat) (K:Cont):XaR C a0 g n K=Zg Tryz.prog C Jac [a0] g n K:=by kernel_rfl
def Qbx (C:CT) (a0 a1:Value) (g:G) (n:Nat) (K:Cont):Prop:=
Qb .ptr .eql a0 (.pointer none) fun v6=>
Qa v6 (
Jc K (.pointer none) g n) (
Qb .int .lss a1 (.int .i64 0) fun v9=>
Qa v9 (
Jc K (.pointer none) g n) (
Zp a0 fun v14=>
Zd v14 fun l15 o15=>
kLd g l15 (o15+7) fun v16=>
QaN v16 fun v17=>
Qb .int .geq a1 v17 fun v18=>
Qa v18 (
Jc K (.pointer none) g n) (
Zp a0 fun v21=>
Zd v21 fun l22 o22=>
C Zw [(ptr l22 (o22+10)),.int .i64 1] g n fun v23 g1 n23=>
Zp a0 fun v25=>
Zd v25 fun l26 o26=>
kLd g1 l26 (o26+7) fun v27=>
Xc v27 a1 4 fun v29=>
Jc K v29 g1 n23)))
theorem Xb1 (C:CT) (a0 a1:Value) (g:G) (n:Nat) (K:Cont):Qbx C a0 a1 g n K=Zg Tryz.prog C Jp [a0,a1] g n K:=by kernel_rfl
def Qa5 (C:CT) (a0 a1:Value) (g:G) (n:Nat) (K:Cont):Prop:=
Qb .ptr .neq a0 (.pointer none) fun v6=>
Qa v6 (
Qb .int .geq a1 (.int .i64 0) fun v9=>
Qa v9 (
Zp a0 fun v14=>
Zd v14 fun l15 o15=>
kLd g l15 (o15+8) fun v16=>
QaN v16 fun v17=>
Qb .int .lss a1 v17 fun v18=>
Jc K v18 g n) (
Jc K (.bool false) g n)) (
Jc K (.bool false) g n)
theorem ZbC (C:CT) (a0 a1:Value) (g:G) (n:Nat) (K:Cont):Qa5 C a0 a1 g n K=Zg Tryz.prog C Jq [a0,a1] g n K:=by kernel_rfl
def Xai (C:CT) (K:Cont) (t:Env) (g:G) (n:Nat):Prop:=
Qi [.int .u64 0,.int .u64 0,.int .u64 0,.int .u64 0,.int .u64 0,.int .u64 0,.int .u64 0,.int .u64 0] [] fun c40=>
C JN [t 0,t 1,.int .i64 4,.int .i64 1,.agg c40.toArray] g n fun v41 g6 n41=>
Jc K (.tuple #[.int .u64 0,.bool false,v41]) g6 n41
def QB (C:CT) (K:Cont) (t:Env) (g:G) (n:Nat):Prop:=
Qa (t 23) (
Zp (t 0) fun v29=>
Zd v29 fun l30 o30=>
kLd g l30 (o30+0) fun v31=>
C Qac [v31,t 1] g n fun v33 g5 n33=>
Zd (t 9) fun l35 o35=>
ZE (ptr l35 (o35+2)) (t 2) 8 1 fun v36=>
Zd v36 fun l37 o37=>
kLd g5 l37 o37 fun v37=>
Jc K (.tuple #[v37,.bool true,.slice none 0 0]) g5 n33) (
Xai C K t g n)
def Za8 (C:CT) (a0 a1 a2:Value) (g:G) (n:Nat) (K:Cont):Prop:=
Qb .ptr .eql a0 (.pointer none) fun v11=>
Qa v11 (
Jc K (.tuple #[.int .u64 0,.bool false,.slice none 0 0]) g n) (
C XaD [a1,a2] g n fun v15 g1 n15=>
kUn .not v15 fun v16=>
Qa v16 (
Jc K (.tuple #[.int .u64 0,.bool false,.slice none 0 0]) g1 n15) (
C Xo [a0,a1] g1 n15 fun v20 g2 n20=>
Jw [.int .i64 0,.int .i64 0,.int .u64 0,.int .u64 0,.int .u64 0,.int .u64 0,.int .u64 0,.int .u64 0,.int .u64 0,.int .u64 0,.int .i64 0] .exact g2 n20 fun l9 g3 n9=>
Xn v20 fun cg4=>
cg4.length=11∧Qx g3 l9 0 cg4 fun g4=>
kLd g4 l9 (0+0) fun v22=>
Qb .int .eql v22 (.int .i64 1) fun v24=>
Qa v24 (
QB C K (puts (Qq [a0,a1,a2]) [(6,.int .u64 0),(7,.bool false),(8,.slice none 0 0),(10,a0),(11,v11),(12,.bool false),(13,a1),(14,a2),(15,v15),(16,v16),(17,v16),(18,a0),(19,a1),(20,v20),(9,ptr l9 0),(21,(ptr l9 (0+0))),(22,v22),(24,v24),(23,v24)]) g4 n9) (
Qb .int .eql v22 (.int .i64 2) fun v25=>
Qa v25 (
QB C K (puts (Qq [a0,a1,a2]) [(6,.int .u64 0),(7,.bool false),(8,.slice none 0 0),(10,a0),(11,v11),(12,.bool false),(13,a1),(14,a2),(15,v15),(16,v16),(17,v16),(18,a0),(19,a1),(20,v20),(9,ptr l9 0),(21,(ptr l9 (0+0))),(22,v22),(24,v24),(23,v24),(25,v25),(23,v25)]) g4 n9) (
Qb .int .eql v22 (.int .i64 3) fun v26=>
Qa v26 (
QB C K (puts (Qq [a0,a1,a2]) [(6,.int .u64 0),(7,.bool false),(8,.slice none 0 0),(10,a0),(11,v11),(12,.bool false),(13,a1),(14,a2),(15,v15),(16,v16),(17,v16),(18,a0),(19,a1),(20,v20),(9,ptr l9 0),(21,(ptr l9 (0+0))),(22,v22),(24,v24),(23,v24),(25,v25),(23,v25),(26,v26),(23,v26)]) g4 n9) (
Qb .int .eql v22 (.int .i64 6) fun v27=>
QB C K (puts (Qq [a0,a1,a2]) [(6,.int .u64 0),(7,.bool false),(8,.slice none 0 0),(10,a0),(11,v11),(12,.bool false),(13,a1),(14,a2),(15,v15),(16,v16),(17,v16),(18,a0),(19,a1),(20,v20),(9,ptr l9 0),(21,(ptr l9 (0+0))),(22,v22),(24,v24),(23,v24),(25,v25),(23,v25),(26,v26),(23,v26),(27,v27),(23,v27)]) g4 n9)))))
theorem XbE (C:CT) (a0 a1 a2:Value) (g:G) (n:Nat) (K:Cont):Za8 C a0 a1 a2 g n K=Zg Tryz.prog C Jah [a0,a1,a2] g n K:=by kernel_rfl
def Qa4 (C:CT) (K:Cont) (I_l1:Zl) (t:Env) (g:G) (n:Nat):Prop:=
Qb .int .lss (t 8) (t 7) fun v9=>
Qa v9 (
Xc (t 6) (t 8) 12 fun v10=>
Zd v10 fun l11 o11=>
Zo g l11 o11 12 fun c11=>
Jw [.int .i64 0,.int .i64 0,.bool false,.bool false,.int .u64 0,.int .u64 0,.int .u64 0,.int .u64 0,.int .u64 0,.int .u64 0,.int .u64 0,.int .u64 0] .exact g n fun l5 g1 n5=>
Xn (.agg c11.toArray) fun cg2=>
cg2.length=12∧Qx g1 l5 0 cg2 fun g2=>
Zp (t 0) fun v13=>
Zd v13 fun l14 o14=>
Zo g2 l5 0 12 fun c15=>
C Xm [(ptr l14 (o14+1)),.agg c15.toArray] g2 n5 fun v16 g3 n16=>
Qb .int .add (t 8) (.int .i64 1) fun v17=>
I_l1 (puts t [(9,v9),(10,v10),(11,.agg c11.toArray),(5,ptr l5 0),(12,t 0),(13,v13),(14,(ptr l14 (o14+1))),(15,.agg c15.toArray),(16,v16),(17,v17),(8,v17)]) g3 n16) (
Jc K (.tuple #[]) g n)
def JbM (C:CT) (a0 a1:Value) (g:G) (n:Nat) (K:Cont):Prop:=
QaN a1 fun v7=>
lfp (Qa4 C K) (puts (Qq [a0,a1]) [(6,a1),(7,v7),(8,.int .i64 0)]) g n
theorem Jce (C:CT) (a0 a1:Value) (g:G) (n:Nat) (K:Cont):JbM C a0 a1 g n K=Zg Tryz.prog C Xag [a0,a1] g n K:=by kernel_rfl
def Xa8 (C:CT) (a0 a1:Value) (g:G) (n:Nat) (K:Cont):Prop:=
C Jq [a0,a1] g n fun v12 g1 n12=>
kUn .not v12 fun v13=>
Qa v13 (
Jc K (.int .i64 1) g1 n12) (
Zp a0 fun v16=>
Zd v16 fun l17 o17=>
kLd g1 l17 (o17+8) fun v18=>
Xc v18 a1 15 fun v20=>
Zd v20 fun l21 o21=>
Zo g1 l21 o21 15 fun c21=>
C ZaM [.agg c21.toArray] g1 n12 fun v22 g2 n22=>
kUn .not v22 fun v23=>
Qa v23 (
Jc K (.int .i64 16) g2 n22) (
C Jad [a0,a1] g2 n22 fun v26 g3 n26=>
Qb .int .neq v26 (.int .i64 0) fun v28=>
Qa v28 (
Jc K v26 g3 n26) (
Zp a0 fun v32=>
Zd v32 fun l33 o33=>
kLd g3 l33 (o33+8) fun v34=>
Xc v34 a1 15 fun v36=>
Zd v36 fun l37 o37=>
Zo g3 l37 o37 15 fun c37=>
C QaY [.agg c37.toArray] g3 n26 fun v38 g4 n38=>
Xd v38 0 fun v39=>
Xd v38 1 fun v40=>
Xd v38 2 fun v41=>
Jw [.bool false,.bool false,.int .u64 0,.int .u64 0,.int .u64 0,.int .u64 0,.int .u64 0,.int .u64 0,.int .u64 0,.int .u64 0,.int .i64 0,.int .u8 0,.int .i64 0,.int .i64 0,.int .u8 0] .exact g4 n38 fun l6 g5 n6=>
Xn v39 fun cg6=>
cg6.length=15∧Qx g5 l6 0 cg6 fun g6=>
Qb .int .neq v41 (.int .i64 0) fun v43=>
Qa v43 (
Jc K v41 g6 n6) (
Zp a0 fun v46=>
Zd v46 fun l47 o47=>
kLd g6 l47 (o47+8) fun v48=>
Zo g6 l6 0 15 fun c50=>
Xc v48 a1 15 fun v51=>
Zd v51 fun lg7 og7=>
Xn (.agg c50.toArray) fun cg7=>
cg7.length=15∧Qx g6 lg7 og7 cg7 fun g7=>
C Jk [a0,v40,a1] g7 n6 fun v55 g8 n55=>
Jc K (.int .i64 0) g8 n55))))
theorem JbF (C:CT) (a0 a1:Value) (g:G) (n:Nat) (K:Cont):Xa8 C a0 a1 g n K=Zg Tryz.prog C Zak [a0,a1] g n K:=by kernel_rfl
def JaP (C:CT) (a0 a1:Value) (g:G) (n:Nat) (K:Cont):Prop:=
C Jq [a0,a1] g n fun v7 g1 n7=>
kUn .not v7 fun v8=>
Qa v8 (
Jc K (.int .i64 1) g1 n7) (
Zp a0 fun v10=>
Zd v10 fun l11 o11=>
kLd g1 l11 (o11+9) fun v12=>
C Jm [v12,a1] g1 n7 fun v14 g2 n14=>
Jc K v14 g2 n14)
theorem Zbu (C:CT) (a0 a1:Value) (g:G) (n:Nat) (K:Cont):JaP C a0 a1 g n K=Zg Tryz.prog C Jab [a0,a1] g n K:=by kernel_rfl
def Xby (C:CT) (a0 a1:Value) (g:G) (n:Nat) (K:Cont):Prop:=
Xn a1 fun c3=>
Jw c3 .exact g n fun l3 g1 n3=>
Qb .ptr .eql a0 (.pointer none) fun v7=>
Qa v7 (
Jc K (.int .i64 1) g1 n3) (
Zo g1 l3 0 12 fun c9=>
C Xau [.agg c9.toArray] g1 n3 fun v10 g2 n10=>
kUn .not v10 fun v11=>
Qa v11 (
Jc K (.int .i64 11) g2 n10) (
Zp a0 fun v14=>
Zd v14 fun l15 o15=>
kLd g2 l15 (o15+0) fun v16=>
QaN v16 fun v17=>
Qb .int .geq v17 (.int .i64 1000) fun v18=>
Qa v18 (
Jc K (.int .i64 13) g2 n10) (
Zp a0 fun v21=>
Zd v21 fun l22 o22=>
kLd g2 l22 (o22+0) fun v23=>
Zo g2 l3 0 12 fun c24=>
Qi (reps 1 [.int .i64 0,.int .i64 0,.bool false,.bool false,.int .u64 0,.int .u64 0,.int .u64 0,.int .u64 0,.int .u64 0,.int .u64 0,.int .u64 0,.int .u64 0]) [(0,some 12,.agg c24.toArray)] fun c25=>
Jw c25 .exact g2 n10 fun l25 g3 n25=>
(Zd (ptr l22 (o22+0)) fun l _=>g3 l=g2 l)∧Zae v23 (.slice (some ⟨l25,0,none⟩) 1 1) 12 88 g3 n25 fun v26 g4 n26=>
Zp a0 fun v27=>
Zd v27 fun l28 o28=>
kSt g4 l28 (o28+0) v26 fun g5=>
Jc K (.int .i64 0) g5 n26)))
theorem Xb4 (C:CT) (a0 a1:Value) (g:G) (n:Nat) (K:Cont):Xby C a0 a1 g n K=Zg Tryz.prog C Xm [a0,a1] g n K:=by kernel_rfl
def XaL (C:CT) (K:Cont) (I_l1:Zl) (t:Env) (g:G) (n:Nat):Prop:=
Qb .int .lss (t 18) (t 17) fun v19=>
Qa v19 (
Xc (t 16) (t 18) 9 fun v20=>
Zd v20 fun l21 o21=>
Zo g l21 o21 9 fun c21=>
Jw [.int .i64 0,.int .u64 0,.int .u64 0,.int .u64 0,.int .u64 0,.int .u64 0,.int .u64 0,.int .u64 0,.int .u64 0] .exact g n fun l5 g2 n5=>
Xn (.agg c21.toArray) fun cg3=>
cg3.length=9∧Qx g2 l5 0 cg3 fun g3=>
kLd g3 l5 (0+0) fun v24=>
Zo g3 l5 (0+1) 8 fun c26=>
Xc (t 3) v24 8 fun v27=>
Zd v27 fun lg4 og4=>
Xn (.agg c26.toArray) fun cg4=>
cg4.length=8∧Qx g3 lg4 og4 cg4 fun g4=>
Qb .int .add (t 18) (.int .i64 1) fun v28=>
I_l1 (puts t [(19,v19),(20,v20),(21,.agg c21.toArray),(5,ptr l5 0),(22,t 3),(23,(ptr l5 (0+0))),(24,v24),(25,(ptr l5 (0+1))),(26,.agg c26.toArray),(27,v27),(28,v28),(18,v28)]) g4 n5) (
Jc K (t 3) g n)
def Qbf (C:CT) (a0:Value) (g:G) (n:Nat) (K:Cont):Prop:=
Qb .ptr .eql a0 (.pointer none) fun v7=>
Qa v7 (
Jc K (.slice none 0 0) g n) (
Zp a0 fun v9=>
Zd v9 fun l10 o10=>
kLd g l10 (o10+0) fun v11=>
C Qak [v11] g n fun v12 g1 n12=>
Zp a0 fun v14=>
Zd v14 fun l15 o15=>
kLd g1 l15 (o15+2) fun v16=>
QaN v16 fun v17=>
lfp (XaL C K) (puts (Qq [a0]) [(2,.slice none 0 0),(6,a0),(7,v7),(8,a0),(9,v9),(10,(ptr l10 (o10+0))),(11,v11),(12,v12),(3,v12),(13,a0),(14,v14),(15,(ptr l15 (o15+2))),(16,v16),(17,v17),(18,.int .i64 0)]) g1 n12)
theorem ZbQ (C:CT) (a0:Value) (g:G) (n:Nat) (K:Cont):Qbf C a0 g n K=Zg Tryz.prog C Qao [a0] g n K:=by kernel_rfl
def ZaS (C:CT) (a0 a1:Value) (g:G) (n:Nat) (K:Cont):Prop:=
Zp a0 fun v6=>
Zd v6 fun l7 o7=>
kLd g l7 (o7+8) fun v8=>
Xc v8 a1 15 fun v10=>
Zd v10 fun l11 o11=>
kLd g l11 (o11+1) fun v12=>
kUn .not v12 fun v13=>
Qa v13 (
Jc K (.int .i64 0) g n) (
Zp a0 fun v15=>
Zd v15 fun l16 o16=>
kLd g l16 (o16+9) fun v17=>
Zp a0 fun v20=>
Zd v20 fun l21 o21=>
kLd g l21 (o21+8) fun v22=>
Xc v22 a1 15 fun v24=>
Zd v24 fun l25 o25=>
Zo g l25 (o25+2) 8 fun c26=>
C Zq [v17,a1,.agg c26.toArray] g n fun v27 g1 n27=>
Jc K v27 g1 n27)
theorem Zbw (C:CT) (a0 a1:Value) (g:G) (n:Nat) (K:Cont):ZaS C a0 a1 g n K=Zg Tryz.prog C Jad [a0,a1] g n K:=by kernel_rfl
def ZaW (C:CT) (a0:Value) (g:G) (n:Nat) (K:Cont):Prop:=
Qb .ptr .eql a0 (.pointer none) fun v4=>
Qa v4 (
Jc K (.slice none 0 0) g n) (
Zp a0 fun v6=>
Zd v6 fun l7 o7=>
kLd g l7 (o7+0) fun v8=>
C JG [v8] g n fun v9 g1 n9=>
Jc K v9 g1 n9)
theorem Xbu (C:CT) (a0:Value) (g:G) (n:Nat) (K:Cont):ZaW C a0 g n K=Zg Tryz.prog C Jaa [a0] g n K:=by kernel_rfl
def XaX (C:CT) (a0 a1 a2 a3:Value) (g:G) (n:Nat) (K:Cont):Prop:=
Qb .ptr .eql a0 (.pointer none) fun v12=>
Qa v12 (
Jc K (.tuple #[.bool false,.slice none 0 0]) g n) (
C XaD [a1,a2] g n fun v16 g1 n16=>
kUn .not v16 fun v17=>
Qa v17 (
Jc K (.tuple #[.bool false,.slice none 0 0]) g1 n16) (
C JS [a0,a1] g1 n16 fun v21 g2 n21=>
kUn .not v21 fun v22=>
Qa v22 (
C Zab [a0,a1] g2 n21 fun v25 g3 n25=>
Jc K (.tuple #[.bool false,v25]) g3 n25) (
C Xo [a0,a1] g2 n21 fun v28 g4 n28=>
Jw [.int .i64 0,.int .i64 0,.int .u64 0,.int .u64 0,.int .u64 0,.int .u64 0,.int .u64 0,.int .u64 0,.int .u64 0,.int .u64 0,.int .i64 0] .exact g4 n28 fun l10 g5 n10=>
Xn v28 fun cg6=>
cg6.length=11∧Qx g5 l10 0 cg6 fun g6=>
ZE (ptr l10 (0+2)) a2 8 1 fun v32=>
Zd v32 fun lg7 og7=>
kSt g6 lg7 og7 a3 fun g7=>
Zp a0 fun v34=>
Zd v34 fun l35 o35=>
kLd g7 l35 (o35+0) fun v36=>
Zo g7 l10 (0+2) 8 fun c39=>
C XE [v36,a1,.int .i64 3,.agg c39.toArray] g7 n10 fun v40 g8 n40=>
Jc K (.tuple #[.bool true,.slice none 0 0]) g8 n40)))
theorem Qbt (C:CT) (a0 a1 a2 a3:Value) (g:G) (n:Nat) (K:Cont):XaX C a0 a1 a2 a3 g n K=Zg Tryz.prog C Xab [a0,a1,a2,a3] g n K:=by kernel_rfl
def Jby (C:CT) (a0:Value) (g:G) (n:Nat) (K:Cont):Prop:=
Jw [.int .i64 0,.int .i64 0,.bool false,.bool false,.int .u64 0,.int .u64 0,.int .u64 0,.int .u64 0,.int .u64 0,.int .u64 0,.int .u64 0,.int .u64 0] .exact g n fun l2 g1 n2=>
C Qah [a0] g1 n2 fun v5 g2 n5=>
Qb .int .eql v5 (.int .i64 0) fun v6=>
Qa v6 (
Qi [.int .i64 0,.int .i64 0,.bool false,.bool false,.int .u64 0,.int .u64 0,.int .u64 0,.int .u64 0,.int .u64 0,.int .u64 0,.int .u64 0,.int .u64 0] [] fun c7=>
Xn (.agg c7.toArray) fun cg3=>
cg3.length=12∧Qx g2 l2 0 cg3 fun g3=>
Zo g3 l2 0 12 fun r0=>
Jc K (.tuple #[.agg r0.toArray,.bool false]) g3 n5) (
Zp a0 fun v9=>
Zd v9 fun l10 o10=>
kLd g2 l10 (o10+0) fun v11=>
Xc v11 (.int .i64 0) 12 fun v12=>
Zd v12 fun l13 o13=>
Zo g2 l13 o13 12 fun c13=>
Xn (.agg c13.toArray) fun cg4=>
cg4.length=12∧Qx g2 l2 0 cg4 fun g4=>
Zo g4 l2 0 12 fun r0=>
Jc K (.tuple #[.agg r0.toArray,.bool true]) g4 n5)
theorem XbZ (C:CT) (a0:Value) (g:G) (n:Nat) (K:Cont):Jby C a0 g n K=Zg Tryz.prog C JR [a0] g n K:=by kernel_rfl
def Qa8 (C:CT) (a0 a1:Value) (g:G) (n:Nat) (K:Cont):Prop:=
Zp a0 fun v6=>
Zd v6 fun l7 o7=>
kLd g l7 (o7+8) fun v8=>
Xc v8 a1 15 fun v10=>
Zp v10 fun v12=>
Zd v12 fun l13 o13=>
kLd g l13 (o13+0) fun v14=>
kUn .not v14 fun v15=>
Qa v15 (
Zp a0 fun v19=>
Zd v19 fun l20 o20=>
kLd g l20 (o20+9) fun v21=>
C QaX [v21,a1] g n fun v23 g1 n23=>
Xd v23 0 fun v24=>
Xd v23 1 fun v25=>
Zp v10 fun v26=>
Zd v26 fun l27 o27=>
Xn v24 fun cg2=>
cg2.length=8∧Qx g1 l27 (o27+2) cg2 fun g2=>
Zp v10 fun v29=>
Zd v29 fun l30 o30=>
kSt g2 l30 (o30+0) (.bool true) fun g3=>
Jc K (.tuple #[]) g3 n23) (
Jc K (.tuple #[]) g n)
theorem ZbD (C:CT) (a0 a1:Value) (g:G) (n:Nat) (K:Cont):Qa8 C a0 a1 g n K=Zg Tryz.prog C Jak [a0,a1] g n K:=by kernel_rfl
def ZeF (C:CT) (a0 a1 a2:Value) (g:G) (n:Nat) (K:Cont):Prop:=
Xn a0 fun c3=>
Jw c3 .exact g n fun l3 g1 n3=>
Xn a2 fun c5=>
Jw c5 .exact g1 n3 fun l5 g2 n5=>
Jw [.bool false,.bool false,.int .u64 0,.int .u64 0,.int .u64 0,.int .u64 0,.int .u64 0,.int .u64 0,.int .u64 0,.int .u64 0,.int .i64 0,.int .u8 0,.int .i64 0,.int .i64 0,.int .u8 0] .exact g2 n5 fun l6 g3 n6=>
Zo g3 l3 0 15 fun c11=>
C XaF [.agg c11.toArray] g3 n6 fun v12 g4 n12=>
kUn .not v12 fun v13=>
Qa v13 (
Qi [.bool false,.bool false,.int .u64 0,.int .u64 0,.int .u64 0,.int .u64 0,.int .u64 0,.int .u64 0,.int .u64 0,.int .u64 0,.int .i64 0,.int .u8 0,.int .i64 0,.int .i64 0,.int .u8 0] [] fun c30=>
Xn (.agg c30.toArray) fun cg5=>
cg5.length=15∧Qx g4 l6 0 cg5 fun g5=>
Zo g5 l6 0 15 fun r0=>
Jc K (.tuple #[.agg r0.toArray,.slice none 0 0,.int .i64 1]) g5 n12) (
C Qau [a1] g4 n12 fun v16 g6 n16=>
kUn .not v16 fun v17=>
Qa v17 (
Qi [.bool false,.bool false,.int .u64 0,.int .u64 0,.int .u64 0,.int .u64 0,.int .u64 0,.int .u64 0,.int .u64 0,.int .u64 0,.int .i64 0,.int .u8 0,.int .i64 0,.int .i64 0,.int .u8 0] [] fun c30=>
Xn (.agg c30.toArray) fun cg7=>
cg7.length=15∧Qx g6 l6 0 cg7 fun g7=>
Zo g7 l6 0 15 fun r0=>
Jc K (.tuple #[.agg r0.toArray,.slice none 0 0,.int .i64 1]) g7 n16) (
Zo g6 l5 0 12 fun c20=>
C Xau [.agg c20.toArray] g6 n16 fun v21 g8 n21=>
kUn .not v21 fun v22=>
Qa v22 (
Qi [.bool false,.bool false,.int .u64 0,.int .u64 0,.int .u64 0,.int .u64 0,.int .u64 0,.int .u64 0,.int .u64 0,.int .u64 0,.int .i64 0,.int .u8 0,.int .i64 0,.int .i64 0,.int .u8 0] [] fun c30=>
Xn (.agg c30.toArray) fun cg9=>
cg9.length=15∧Qx g8 l6 0 cg9 fun g9=>
Zo g9 l6 0 15 fun r0=>
Jc K (.tuple #[.agg r0.toArray,.slice none 0 0,.int .i64 1]) g9 n21) (
kLd g8 l5 (0+0) fun v26=>
C JbD [v26] g8 n21 fun v27 g10 n27=>
kUn .not v27 fun v28=>
Qa v28 (
Qi [.bool false,.bool false,.int .u64 0,.int .u64 0,.int .u64 0,.int .u64 0,.int .u64 0,.int .u64 0,.int .u64 0,.int .u64 0,.int .i64 0,.int .u8 0,.int .i64 0,.int .i64 0,.int .u8 0] [] fun c30=>
Xn (.agg c30.toArray) fun cg11=>
cg11.length=15∧Qx g10 l6 0 cg11 fun g11=>
Zo g11 l6 0 15 fun r0=>
Jc K (.tuple #[.agg r0.toArray,.slice none 0 0,.int .i64 1]) g11 n27) (
kLd g10 l3 (0+12) fun v33=>
Qb .int .neq v33 (.int .i64 0) fun v34=>
Qa v34 (
Qi [.bool false,.bool false,.int .u64 0,.int .u64 0,.int .u64 0,.int .u64 0,.int .u64 0,.int .u64 0,.int .u64 0,.int .u64 0,.int .i64 0,.int .u8 0,.int .i64 0,.int .i64 0,.int .u8 0] [] fun c35=>
Xn (.agg c35.toArray) fun cg12=>
cg12.length=15∧Qx g10 l6 0 cg12 fun g12=>
Zo g12 l6 0 15 fun r0=>
Jc K (.tuple #[.agg r0.toArray,.slice none 0 0,.int .i64 15]) g12 n27) (
kLd g10 l3 (0+0) fun v38=>
kUn .not v38 fun v39=>
Qa v39 (
Qi [.bool false,.bool false,.int .u64 0,.int .u64 0,.int .u64 0,.int .u64 0,.int .u64 0,.int .u64 0,.int .u64 0,.int .u64 0,.int .i64 0,.int .u8 0,.int .i64 0,.int .i64 0,.int .u8 0] [] fun c40=>
Xn (.agg c40.toArray) fun cg13=>
cg13.length=15∧Qx g10 l6 0 cg13 fun g13=>
Zo g13 l6 0 15 fun r0=>
Jc K (.tuple #[.agg r0.toArray,.slice none 0 0,.int .i64 16]) g13 n27) (
Zo g10 l3 0 15 fun c41=>
kLd g10 l5 (0+1) fun v43=>
Qi [.bool false,.bool false,.int .u64 0,.int .u64 0,.int .u64 0,.int .u64 0,.int .u64 0,.int .u64 0,.int .u64 0,.int .u64 0,.int .i64 0,.int .u8 0,.int .i64 0,.int .i64 0,.int .u8 0,.int .i64 0,.slice none 0 0] [(0,some 15,.agg c41.toArray),(15,none,v43)] fun c44=>
Xn (.agg c44.toArray) fun c45=>
Jw c45 .exact g10 n27 fun l45 g14 n45=>
kLd g14 l5 (0+0) fun v48=>
Zo g14 l5 0 12 fun c52=>
C QbA [] g14 n45 fun v46 g15 n46=>
(Zd (ptr l5 (0+0)) fun l _=>g15 l=g14 l)∧(Zd (ptr l5 0) fun l _=>g15 l=g14 l)∧Xdg v46 v48 6 1 none fun v49=>
Xbc C v49 [ptr l45 0,a1,.agg c52.toArray] g15 n46 fun v53 g16 n53=>
Zo g16 l45 (0+0) 15 fun c57=>
kLd g16 l45 (0+16) fun v61=>
Xn (.agg c57.toArray) fun cg17=>
cg17.length=15∧Qx g16 l6 0 cg17 fun g17=>
(Zd (ptr l45 (0+16)) fun l _=>g17 l=g16 l)∧Zo g17 l6 0 15 fun r0=>
Jc K (.tuple #[.agg r0.toArray,v61,.int .i64 0]) g17 n53))))))
theorem Xet (C:CT) (a0 a1 a2:Value) (g:G) (n:Nat) (K:Cont):ZeF C a0 a1 a2 g n K=Zg Tryz.prog C Jbr [a0,a1,a2] g n K:=by kernel_rfl
def Zag (C:CT) (K:Cont) (t:Env) (g:G) (n:Nat):Prop:=
Zd (t 4) fun l20 o20=>
Zo g l20 o20 12 fun c20=>
Zd (t 2) fun lg6 og6=>
Xn (.agg c20.toArray) fun cg6=>
cg6.length=12∧Qx g lg6 og6 cg6 fun g6=>
Zd (t 2) fun lr0 or0=>
Zo g6 lr0 or0 12 fun r0=>
Jc K (.tuple #[.agg r0.toArray,t 5]) g6 n
def JbW (C:CT) (a0:Value) (g:G) (n:Nat) (K:Cont):Prop:=
Jw [.int .i64 0,.int .i64 0,.bool false,.bool false,.int .u64 0,.int .u64 0,.int .u64 0,.int .u64 0,.int .u64 0,.int .u64 0,.int .u64 0,.int .u64 0] .exact g n fun l2 g1 n2=>
C JR [a0] g1 n2 fun v8 g2 n8=>
Xd v8 0 fun v9=>
Xd v8 1 fun v10=>
Jw [.int .i64 0,.int .i64 0,.bool false,.bool false,.int .u64 0,.int .u64 0,.int .u64 0,.int .u64 0,.int .u64 0,.int .u64 0,.int .u64 0,.int .u64 0] .exact g2 n8 fun l4 g3 n4=>
Xn v9 fun cg4=>
cg4.length=12∧Qx g3 l4 0 cg4 fun g4=>
Qa v10 (
Zp a0 fun v14=>
Zd v14 fun l15 o15=>
kLd g4 l15 (o15+0) fun v16=>
Ju v16 (some (.int .i64 1)) none none 12 fun v17=>
Zp a0 fun v18=>
Zd v18 fun l19 o19=>
kSt g4 l19 (o19+0) v17 fun g5=>
Zag C K (puts (Qq [a0]) [(2,ptr l2 0),(3,.bool false),(7,a0),(8,v8),(6,v8),(9,v9),(10,v10),(4,ptr l4 0),(5,v10),(11,v10),(12,a0),(13,a0),(14,v14),(15,(ptr l15 (o15+0))),(16,v16),(17,v17),(18,v18),(19,(ptr l19 (o19+0)))]) g5 n4) (
Zag C K (puts (Qq [a0]) [(2,ptr l2 0),(3,.bool false),(7,a0),(8,v8),(6,v8),(9,v9),(10,v10),(4,ptr l4 0),(5,v10),(11,v10)]) g4 n4)
theorem Qcb (C:CT) (a0:Value) (g:G) (n:Nat) (K:Cont):JbW C a0 g n K=Zg Tryz.prog C Qr [a0] g n K:=by kernel_rfl
def Qay (C:CT) (K:Cont) (I_l1:Zl) (t:Env) (g:G) (n:Nat):Prop:=
Qb .int .lss (t 11) (t 10) fun v12=>
Qa v12 (
Xc (t 9) (t 11) 13 fun v13=>
Zd v13 fun l14 o14=>
Zo g l14 o14 13 fun c14=>
Jw [.int .i64 0,.int .i64 0,.int .i64 0,.bool false,.bool false,.int .u64 0,.int .u64 0,.int .u64 0,.int .u64 0,.int .u64 0,.int .u64 0,.int .u64 0,.int .u64 0] .exact g n fun l7 g1 n7=>
Xn (.agg c14.toArray) fun cg2=>
cg2.length=13∧Qx g1 l7 0 cg2 fun g2=>
kSt g2 l7 (0+1+1) (t 2) fun g3=>
kLd g3 l7 (0+0) fun v20=>
C Jp [t 0,v20] g3 n7 fun v21 g4 n21=>
Qb .ptr .neq v21 (.pointer none) fun v23=>
Qa v23 (
Zp v21 fun v25=>
Zd v25 fun l26 o26=>
Zo g4 l7 (0+1) 12 fun c28=>
C Xm [(ptr l26 (o26+3)),.agg c28.toArray] g4 n21 fun v29 g5 n29=>
Qb .int .add (t 11) (.int .i64 1) fun v30=>
I_l1 (puts t [(12,v12),(13,v13),(14,.agg c14.toArray),(7,ptr l7 0),(15,t 2),(16,(ptr l7 (0+1))),(17,(ptr l7 (0+1+1))),(18,t 0),(19,(ptr l7 (0+0))),(20,v20),(21,v21),(8,v21),(22,v21),(23,v23),(24,v21),(25,v25),(26,(ptr l26 (o26+3))),(27,(ptr l7 (0+1))),(28,.agg c28.toArray),(29,v29),(30,v30),(11,v30)]) g5 n29) (
Qb .int .add (t 11) (.int .i64 1) fun v30=>
I_l1 (puts t [(12,v12),(13,v13),(14,.agg c14.toArray),(7,ptr l7 0),(15,t 2),(16,(ptr l7 (0+1))),(17,(ptr l7 (0+1+1))),(18,t 0),(19,(ptr l7 (0+0))),(20,v20),(21,v21),(8,v21),(22,v21),(23,v23),(30,v30),(11,v30)]) g4 n21)) (
Jc K (.tuple #[]) g n)
def QaS (C:CT) (a0 a1 a2:Value) (g:G) (n:Nat) (K:Cont):Prop:=
QaN a1 fun v10=>
lfp (Qay C K) (puts (Qq [a0,a1,a2]) [(9,a1),(10,v10),(11,.int .i64 0)]) g n
theorem Qbs (C:CT) (a0 a1 a2:Value) (g:G) (n:Nat) (K:Cont):QaS C a0 a1 a2 g n K=Zg Tryz.prog C Jk [a0,a1,a2] g n K:=by kernel_rfl
def QU (C:CT) (K:Cont) (t:Env) (g:G) (n:Nat):Prop:=
Zp (t 0) fun v66=>
Zd v66 fun l67 o67=>
kLd g l67 (o67+0) fun v68=>
Zd (t 3) fun l69 o69=>
kLd g l69 (o69+1) fun v70=>
Zd (t 8) fun l72 o72=>
Zo g l72 o72 8 fun c72=>
C XE [v68,v70,t 7,.agg c72.toArray] g n fun v73 g14 n73=>
Zd (t 3) fun l74 o74=>
Zo g14 l74 o74 12 fun c74=>
Zd (t 6) fun l75 o75=>
Zo g14 l75 o75 11 fun c75=>
C Jaq [.agg c74.toArray,.agg c75.toArray,t 7] g14 n73 fun v77 g15 n77=>
Jc K (.tuple #[v77,.int .i64 0]) g15 n77
def QJ (C:CT) (K:Cont) (t:Env) (g:G) (n:Nat):Prop:=
Qa (t 59) (
Zd (t 3) fun l63 o63=>
Zo g l63 (o63+4) 8 fun c64=>
Zd (t 8) fun lg13 og13=>
Xn (.agg c64.toArray) fun cg13=>
cg13.length=8∧Qx g lg13 og13 cg13 fun g13=>
QU C K (puts t [(63,(ptr l63 (o63+4))),(64,.agg c64.toArray)]) g13 n) (
QU C K t g n)
def ZU (C:CT) (K:Cont) (t:Env) (g:G) (n:Nat):Prop:=
Zd (t 3) fun l57 o57=>
kLd g l57 (o57+0) fun v58=>
Qb .int .eql v58 (.int .i64 8) fun v60=>
Qa v60 (
QJ C K (puts t [(57,(ptr l57 (o57+0))),(58,v58),(60,v60),(59,v60)]) g n) (
Qb .int .eql v58 (.int .i64 9) fun v61=>
Qa v61 (
QJ C K (puts t [(57,(ptr l57 (o57+0))),(58,v58),(60,v60),(59,v60),(61,v61),(59,v61)]) g n) (
Qb .int .eql v58 (.int .i64 10) fun v62=>
QJ C K (puts t [(57,(ptr l57 (o57+0))),(58,v58),(60,v60),(59,v60),(61,v61),(59,v61),(62,v62),(59,v62)]) g n))
def JT (C:CT) (K:Cont) (t:Env) (g:G) (n:Nat):Prop:=
Qa (t 53) (
Qi [.int .u64 0,.int .u64 0,.int .u64 0,.int .u64 0,.int .u64 0,.int .u64 0,.int .u64 0,.int .u64 0] [] fun c56=>
Zd (t 8) fun lg12 og12=>
Xn (.agg c56.toArray) fun cg12=>
cg12.length=8∧Qx g lg12 og12 cg12 fun g12=>
ZU C K (puts t [(56,.agg c56.toArray)]) g12 n) (
ZU C K t g n)
def Ja9 (C:CT) (a0 a1:Value) (g:G) (n:Nat) (K:Cont):Prop:=
Xn a1 fun c3=>
Jw c3 .exact g n fun l3 g1 n3=>
Qb .ptr .eql a0 (.pointer none) fun v10=>
Qa v10 (
Jc K (.tuple #[.slice none 0 0,.int .i64 1]) g1 n3) (
Zo g1 l3 0 12 fun c12=>
C Xau [.agg c12.toArray] g1 n3 fun v13 g2 n13=>
kUn .not v13 fun v14=>
Qa v14 (
Jc K (.tuple #[.slice none 0 0,.int .i64 1]) g2 n13) (
kLd g2 l3 (0+0) fun v18=>
C Zbj [v18] g2 n13 fun v19 g3 n19=>
kUn .not v19 fun v20=>
Qa v20 (
Jc K (.tuple #[.slice none 0 0,.int .i64 1]) g3 n19) (
kLd g3 l3 (0+1) fun v24=>
C Xo [a0,v24] g3 n19 fun v25 g4 n25=>
Jw [.int .i64 0,.int .i64 0,.int .u64 0,.int .u64 0,.int .u64 0,.int .u64 0,.int .u64 0,.int .u64 0,.int .u64 0,.int .u64 0,.int .i64 0] .exact g4 n25 fun l6 g5 n6=>
Xn v25 fun cg6=>
cg6.length=11∧Qx g5 l6 0 cg6 fun g6=>
kLd g6 l3 (0+0) fun v28=>
kLd g6 l6 (0+0) fun v31=>
C Zbx [] g6 n6 fun v26 g7 n26=>
(Zd (ptr l3 (0+0)) fun l _=>g7 l=g6 l)∧(Zd (ptr l6 (0+0)) fun l _=>g7 l=g6 l)∧Xdg v26 v28 15 10 (some 10) fun v29=>
Xdg v29 v31 10 1 none fun v32=>
Zo g7 l6 (0+2) 8 fun c34=>
Jw [.int .u64 0,.int .u64 0,.int .u64 0,.int .u64 0,.int .u64 0,.int .u64 0,.int .u64 0,.int .u64 0] .exact g7 n26 fun l8 g8 n8=>
Xn (.agg c34.toArray) fun cg9=>
cg9.length=8∧Qx g8 l8 0 cg9 fun g9=>
Qb .int .eql v32 (.int .i64 (-1)) fun v37=>
Qa v37 (
Jc K (.tuple #[.slice none 0 0,.int .i64 16]) g9 n8) (
Qb .int .eql v32 (.int .i64 (-2)) fun v39=>
Qa v39 (
Jc K (.tuple #[.slice none 0 0,.int .i64 0]) g9 n8) (
Qb .int .eql v32 (.int .i64 0) fun v41=>
Qa v41 (
Zp a0 fun v43=>
Zd v43 fun l44 o44=>
kLd g9 l44 (o44+0) fun v45=>
kLd g9 l3 (0+1) fun v47=>
C Qai [v45,v47] g9 n8 fun v48 g10 n48=>
Zo g10 l3 0 12 fun c49=>
Zo g10 l6 0 11 fun c50=>
C Jaq [.agg c49.toArray,.agg c50.toArray,v32] g10 n48 fun v52 g11 n52=>
Jc K (.tuple #[v52,.int .i64 0]) g11 n52) (
Qb .int .eql v32 (.int .i64 5) fun v54=>
Qa v54 (
JT C K (puts (Qq [a0,a1]) [(3,ptr l3 0),(4,.slice none 0 0),(5,.int .i64 0),(9,a0),(10,v10),(11,.bool false),(12,.agg c12.toArray),(13,v13),(14,v14),(15,v14),(16,.bool false),(17,(ptr l3 (0+0))),(18,v18),(19,v19),(20,v20),(21,v20),(22,a0),(23,(ptr l3 (0+1))),(24,v24),(25,v25),(6,ptr l6 0),(27,(ptr l3 (0+0))),(28,v28),(30,(ptr l6 (0+0))),(31,v31),(26,v26),(29,v29),(32,v32),(7,v32),(33,(ptr l6 (0+2))),(34,.agg c34.toArray),(8,ptr l8 0),(35,v32),(37,v37),(36,v37),(39,v39),(38,v39),(41,v41),(40,v41),(54,v54),(53,v54)]) g9 n8) (
Qb .int .eql v32 (.int .i64 8) fun v55=>
JT C K (puts (Qq [a0,a1]) [(3,ptr l3 0),(4,.slice none 0 0),(5,.int .i64 0),(9,a0),(10,v10),(11,.bool false),(12,.agg c12.toArray),(13,v13),(14,v14),(15,v14),(16,.bool false),(17,(ptr l3 (0+0))),(18,v18),(19,v19),(20,v20),(21,v20),(22,a0),(23,(ptr l3 (0+1))),(24,v24),(25,v25),(6,ptr l6 0),(27,(ptr l3 (0+0))),(28,v28),(30,(ptr l6 (0+0))),(31,v31),(26,v26),(29,v29),(32,v32),(7,v32),(33,(ptr l6 (0+2))),(34,.agg c34.toArray),(8,ptr l8 0),(35,v32),(37,v37),(36,v37),(39,v39),(38,v39),(41,v41),(40,v41),(54,v54),(53,v54),(55,v55),(53,v55)]) g9 n8)))))))
theorem JbA (C:CT) (a0 a1:Value) (g:G) (n:Nat) (K:Cont):Ja9 C a0 a1 g n K=Zg Tryz.prog C Jaj [a0,a1] g n K:=by kernel_rfl
def Xar (C:CT) (K:Cont) (t:Env) (g:G) (n:Nat):Prop:=
Zp (t 9) fun v133=>
Zd v133 fun l134 o134=>
Zo g l134 (o134+0) 15 fun c135=>
Zp (t 9) fun v137=>
Zd v137 fun l138 o138=>
kLd g l138 (o138+16) fun v139=>
Zd (t 6) fun lg27 og27=>
Xn (.agg c135.toArray) fun cg27=>
cg27.length=15∧Qx g lg27 og27 cg27 fun g27=>
(Zd (ptr l138 (o138+16)) fun l _=>g27 l=g l)∧Zd (t 6) fun lr0 or0=>
Zo g27 lr0 or0 15 fun r0=>
Jc K (.tuple #[.agg r0.toArray,v139,.int .i64 0]) g27 n
def Qaz (C:CT) (K:Cont) (t:Env) (g:G) (n:Nat):Prop:=
Zp (t 9) fun v99=>
Zd v99 fun l100 o100=>
kLd g l100 (o100+0+14) fun v102=>
Qb .int .neq v102 (.int .u8 0) fun v103=>
Qa v103 (
Zp (t 9) fun v105=>
Zd v105 fun l106 o106=>
Zo g l106 (o106+0) 15 fun c107=>
Zd (t 6) fun lg24 og24=>
Xn (.agg c107.toArray) fun cg24=>
cg24.length=15∧Qx g lg24 og24 cg24 fun g24=>
Zd (t 6) fun lr0 or0=>
Zo g24 lr0 or0 15 fun r0=>
Jc K (.tuple #[.agg r0.toArray,.slice none 0 0,.int .i64 0]) g24 n) (
Zp (t 9) fun v109=>
Zd v109 fun l110 o110=>
kLd g l110 (o110+0+13) fun v112=>
Zp (t 9) fun v114=>
Zd v114 fun l115 o115=>
kLd g l115 (o115+0+12) fun v117=>
Qb .int .eql v117 (.int .i64 1) fun v119=>
Qa v119 (
C QW [t 9] g n fun v121 g25 n121=>
C JV [t 9,v112] g25 n121 fun v124 g26 n124=>
Xar C K (puts t [(98,t 9),(99,v99),(100,(ptr l100 (o100+0))),(101,(ptr l100 (o100+0+14))),(102,v102),(103,v103),(108,t 9),(109,v109),(110,(ptr l110 (o110+0))),(111,(ptr l110 (o110+0+13))),(112,v112),(10,v112),(113,t 9),(114,v114),(115,(ptr l115 (o115+0))),(116,(ptr l115 (o115+0+12))),(117,v117),(119,v119),(118,v119),(120,t 9),(121,v121),(122,t 9),(123,v112),(124,v124)]) g26 n124) (
Qb .int .eql v117 (.int .i64 2) fun v126=>
Qa v126 (
C QW [t 9] g n fun v128 g28 n128=>
C JQ [t 9,v112,.int .i64 10] g28 n128 fun v131 g29 n131=>
Xar C K (puts t [(98,t 9),(99,v99),(100,(ptr l100 (o100+0))),(101,(ptr l100 (o100+0+14))),(102,v102),(103,v103),(108,t 9),(109,v109),(110,(ptr l110 (o110+0))),(111,(ptr l110 (o110+0+13))),(112,v112),(10,v112),(113,t 9),(114,v114),(115,(ptr l115 (o115+0))),(116,(ptr l115 (o115+0+12))),(117,v117),(119,v119),(118,v119),(126,v126),(125,v126),(127,t 9),(128,v128),(129,t 9),(130,v112),(131,v131)]) g29 n131) (
Xar C K (puts t [(98,t 9),(99,v99),(100,(ptr l100 (o100+0))),(101,(ptr l100 (o100+0+14))),(102,v102),(103,v103),(108,t 9),(109,v109),(110,(ptr l110 (o110+0))),(111,(ptr l110 (o110+0+13))),(112,v112),(10,v112),(113,t 9),(114,v114),(115,(ptr l115 (o115+0))),(116,(ptr l115 (o115+0+12))),(117,v117),(119,v119),(118,v119),(126,v126),(125,v126)]) g n)))
def Jaz (C:CT) (K:Cont) (t:Env) (g:G) (n:Nat):Prop:=
Zp (t 9) fun v75=>
Zd v75 fun l76 o76=>
kLd g l76 (o76+0+11) fun v78=>
C Xq [t 1] g n fun v80 g20 n80=>
(Zd (ptr l76 (o76+0+11)) fun l _=>g20 l=g l)∧Qb .int .andNot v78 v80 fun v81=>
Zp (t 9) fun v82=>
Zd v82 fun l83 o83=>
kSt g20 l83 (o83+0+11) v81 fun g21=>
Zd (t 5) fun l85 o85=>
kLd g21 l85 (o85+3) fun v86=>
Qa v86 (
Zp (t 9) fun v88=>
Zd v88 fun l89 o89=>
kLd g21 l89 (o89+0+11) fun v91=>
C Xq [t 1] g21 n80 fun v93 g22 n93=>
(Zd (ptr l89 (o89+0+11)) fun l _=>g22 l=g21 l)∧Qb .int .or v91 v93 fun v94=>
Zp (t 9) fun v95=>
Zd v95 fun l96 o96=>
kSt g22 l96 (o96+0+11) v94 fun g23=>
Qaz C K (puts t [(74,t 9),(75,v75),(76,(ptr l76 (o76+0))),(77,(ptr l76 (o76+0+11))),(78,v78),(79,t 1),(80,v80),(81,v81),(82,v82),(83,(ptr l83 (o83+0))),(84,(ptr l83 (o83+0+11))),(85,(ptr l85 (o85+3))),(86,v86),(87,t 9),(88,v88),(89,(ptr l89 (o89+0))),(90,(ptr l89 (o89+0+11))),(91,v91),(92,t 1),(93,v93),(94,v94),(95,v95),(96,(ptr l96 (o96+0))),(97,(ptr l96 (o96+0+11)))]) g23 n93) (
Qaz C K (puts t [(74,t 9),(75,v75),(76,(ptr l76 (o76+0))),(77,(ptr l76 (o76+0+11))),(78,v78),(79,t 1),(80,v80),(81,v81),(82,v82),(83,(ptr l83 (o83+0))),(84,(ptr l83 (o83+0+11))),(85,(ptr l85 (o85+3))),(86,v86)]) g21 n80)
def JcU (C:CT) (a0 a1 a2:Value) (g:G) (n:Nat) (K:Cont):Prop:=
Xn a0 fun c3=>
Jw c3 .exact g n fun l3 g1 n3=>
Xn a2 fun c5=>
Jw c5 .exact g1 n3 fun l5 g2 n5=>
Jw [.bool false,.bool false,.int .u64 0,.int .u64 0,.int .u64 0,.int .u64 0,.int .u64 0,.int .u64 0,.int .u64 0,.int .u64 0,.int .i64 0,.int .u8 0,.int .i64 0,.int .i64 0,.int .u8 0] .exact g2 n5 fun l6 g3 n6=>
Zo g3 l3 0 15 fun c12=>
C XaF [.agg c12.toArray] g3 n6 fun v13 g4 n13=>
kUn .not v13 fun v14=>
Qa v14 (
Qi [.bool false,.bool false,.int .u64 0,.int .u64 0,.int .u64 0,.int .u64 0,.int .u64 0,.int .u64 0,.int .u64 0,.int .u64 0,.int .i64 0,.int .u8 0,.int .i64 0,.int .i64 0,.int .u8 0] [] fun c31=>
Xn (.agg c31.toArray) fun cg5=>
cg5.length=15∧Qx g4 l6 0 cg5 fun g5=>
Zo g5 l6 0 15 fun r0=>
Jc K (.tuple #[.agg r0.toArray,.slice none 0 0,.int .i64 1]) g5 n13) (
C Qau [a1] g4 n13 fun v17 g6 n17=>
kUn .not v17 fun v18=>
Qa v18 (
Qi [.bool false,.bool false,.int .u64 0,.int .u64 0,.int .u64 0,.int .u64 0,.int .u64 0,.int .u64 0,.int .u64 0,.int .u64 0,.int .i64 0,.int .u8 0,.int .i64 0,.int .i64 0,.int .u8 0] [] fun c31=>
Xn (.agg c31.toArray) fun cg7=>
cg7.length=15∧Qx g6 l6 0 cg7 fun g7=>
Zo g7 l6 0 15 fun r0=>
Jc K (.tuple #[.agg r0.toArray,.slice none 0 0,.int .i64 1]) g7 n17) (
Zo g6 l5 0 12 fun c21=>
C Xau [.agg c21.toArray] g6 n17 fun v22 g8 n22=>
kUn .not v22 fun v23=>
Qa v23 (
Qi [.bool false,.bool false,.int .u64 0,.int .u64 0,.int .u64 0,.int .u64 0,.int .u64 0,.int .u64 0,.int .u64 0,.int .u64 0,.int .i64 0,.int .u8 0,.int .i64 0,.int .i64 0,.int .u8 0] [] fun c31=>
Xn (.agg c31.toArray) fun cg9=>
cg9.length=15∧Qx g8 l6 0 cg9 fun g9=>
Zo g9 l6 0 15 fun r0=>
Jc K (.tuple #[.agg r0.toArray,.slice none 0 0,.int .i64 1]) g9 n22) (
kLd g8 l5 (0+0) fun v27=>
C JaO [v27] g8 n22 fun v28 g10 n28=>
kUn .not v28 fun v29=>
Qa v29 (
Qi [.bool false,.bool false,.int .u64 0,.int .u64 0,.int .u64 0,.int .u64 0,.int .u64 0,.int .u64 0,.int .u64 0,.int .u64 0,.int .i64 0,.int .u8 0,.int .i64 0,.int .i64 0,.int .u8 0] [] fun c31=>
Xn (.agg c31.toArray) fun cg11=>
cg11.length=15∧Qx g10 l6 0 cg11 fun g11=>
Zo g11 l6 0 15 fun r0=>
Jc K (.tuple #[.agg r0.toArray,.slice none 0 0,.int .i64 1]) g11 n28) (
kLd g10 l3 (0+12) fun v34=>
Qb .int .eql v34 (.int .i64 0) fun v35=>
Qa v35 (
Qi [.bool false,.bool false,.int .u64 0,.int .u64 0,.int .u64 0,.int .u64 0,.int .u64 0,.int .u64 0,.int .u64 0,.int .u64 0,.int .i64 0,.int .u8 0,.int .i64 0,.int .i64 0,.int .u8 0] [] fun c43=>
Xn (.agg c43.toArray) fun cg12=>
cg12.length=15∧Qx g10 l6 0 cg12 fun g12=>
Zo g12 l6 0 15 fun r0=>
Jc K (.tuple #[.agg r0.toArray,.slice none 0 0,.int .i64 16]) g12 n28) (
kLd g10 l3 (0+14) fun v38=>
C Za4 [v38,a1] g10 n28 fun v40 g13 n40=>
kUn .not v40 fun v41=>
Qa v41 (
Qi [.bool false,.bool false,.int .u64 0,.int .u64 0,.int .u64 0,.int .u64 0,.int .u64 0,.int .u64 0,.int .u64 0,.int .u64 0,.int .i64 0,.int .u8 0,.int .i64 0,.int .i64 0,.int .u8 0] [] fun c43=>
Xn (.agg c43.toArray) fun cg14=>
cg14.length=15∧Qx g13 l6 0 cg14 fun g14=>
Zo g14 l6 0 15 fun r0=>
Jc K (.tuple #[.agg r0.toArray,.slice none 0 0,.int .i64 16]) g14 n40) (
Zo g13 l3 0 15 fun c44=>
kLd g13 l5 (0+1) fun v46=>
Qi [.bool false,.bool false,.int .u64 0,.int .u64 0,.int .u64 0,.int .u64 0,.int .u64 0,.int .u64 0,.int .u64 0,.int .u64 0,.int .i64 0,.int .u8 0,.int .i64 0,.int .i64 0,.int .u8 0,.int .i64 0,.slice none 0 0] [(0,some 15,.agg c44.toArray),(15,none,v46)] fun c47=>
Xn (.agg c47.toArray) fun c48=>
Jw c48 .exact g13 n40 fun l48 g15 n48=>
kLd g15 l48 (0+0+14) fun v53=>
C Xq [a1] g15 n48 fun v55 g16 n55=>
(Zd (ptr l48 (0+0+14)) fun l _=>g16 l=g15 l)∧Qb .int .andNot v53 v55 fun v56=>
kSt g16 l48 (0+0+14) v56 fun g17=>
Zo g17 l5 0 12 fun c61=>
C Qaf [ptr l48 0,.agg c61.toArray] g17 n55 fun v62 g18 n62=>
kLd g18 l48 (0+0+10) fun v67=>
Qb .int .eql v67 a1 fun v69=>
Qa v69 (
kSt g18 l48 (0+0+10) (.int .i64 (-1)) fun g19=>
Jaz C K (puts (Qq [a0,a1,a2]) [(3,ptr l3 0),(5,ptr l5 0),(6,ptr l6 0),(7,.slice none 0 0),(8,.int .i64 0),(12,.agg c12.toArray),(13,v13),(14,v14),(15,.bool false),(16,a1),(17,v17),(18,v18),(19,v18),(20,.bool false),(21,.agg c21.toArray),(22,v22),(23,v23),(24,v23),(25,.bool false),(26,(ptr l5 (0+0))),(27,v27),(28,v28),(29,v29),(30,v29),(11,v29),(33,(ptr l3 (0+12))),(34,v34),(35,v35),(36,.bool false),(37,(ptr l3 (0+14))),(38,v38),(39,a1),(40,v40),(41,v41),(42,v41),(32,v41),(44,.agg c44.toArray),(45,(ptr l5 (0+1))),(46,v46),(47,.agg c47.toArray),(48,ptr l48 0),(9,ptr l48 0),(49,ptr l48 0),(50,ptr l48 0),(51,(ptr l48 (0+0))),(52,(ptr l48 (0+0+14))),(53,v53),(54,a1),(55,v55),(56,v56),(57,ptr l48 0),(58,(ptr l48 (0+0))),(59,(ptr l48 (0+0+14))),(60,ptr l48 0),(61,.agg c61.toArray),(62,v62),(63,ptr l48 0),(64,ptr l48 0),(65,(ptr l48 (0+0))),(66,(ptr l48 (0+0+10))),(67,v67),(68,a1),(69,v69),(70,ptr l48 0),(71,ptr l48 0),(72,(ptr l48 (0+0))),(73,(ptr l48 (0+0+10)))]) g19 n62) (
Jaz C K (puts (Qq [a0,a1,a2]) [(3,ptr l3 0),(5,ptr l5 0),(6,ptr l6 0),(7,.slice none 0 0),(8,.int .i64 0),(12,.agg c12.toArray),(13,v13),(14,v14),(15,.bool false),(16,a1),(17,v17),(18,v18),(19,v18),(20,.bool false),(21,.agg c21.toArray),(22,v22),(23,v23),(24,v23),(25,.bool false),(26,(ptr l5 (0+0))),(27,v27),(28,v28),(29,v29),(30,v29),(11,v29),(33,(ptr l3 (0+12))),(34,v34),(35,v35),(36,.bool false),(37,(ptr l3 (0+14))),(38,v38),(39,a1),(40,v40),(41,v41),(42,v41),(32,v41),(44,.agg c44.toArray),(45,(ptr l5 (0+1))),(46,v46),(47,.agg c47.toArray),(48,ptr l48 0),(9,ptr l48 0),(49,ptr l48 0),(50,ptr l48 0),(51,(ptr l48 (0+0))),(52,(ptr l48 (0+0+14))),(53,v53),(54,a1),(55,v55),(56,v56),(57,ptr l48 0),(58,(ptr l48 (0+0))),(59,(ptr l48 (0+0+14))),(60,ptr l48 0),(61,.agg c61.toArray),(62,v62),(63,ptr l48 0),(64,ptr l48 0),(65,(ptr l48 (0+0))),(66,(ptr l48 (0+0+10))),(67,v67),(68,a1),(69,v69)]) g18 n62)))))))
theorem Xc0 (C:CT) (a0 a1 a2:Value) (g:G) (n:Nat) (K:Cont):JcU C a0 a1 a2 g n K=Zg Tryz.prog C ZaB [a0,a1,a2] g n K:=by kernel_rfl
def Qb8 (C:CT) (a0 a1 a2:Value) (g:G) (n:Nat) (K:Cont):Prop:=
Qb .int .geq a0 a1 fun v9=>
Qa v9 (
Qb .int .leq a0 a2 fun v13=>
Jc K v13 g n) (
Jc K (.bool false) g n)
theorem ZcA (C:CT) (a0 a1 a2:Value) (g:G) (n:Nat) (K:Cont):Qb8 C a0 a1 a2 g n K=Zg Tryz.prog C Qe [a0,a1,a2] g n K:=by kernel_rfl
def Qdy (C:CT) (a0 a1:Value) (g:G) (n:Nat) (K:Cont):Prop:=
C Jbc [a0,a1] g n fun v11 g1 n11=>
Xd v11 0 fun v12=>
Xd v11 1 fun v13=>
Qb .int .neq v13 (.int .i64 0) fun v15=>
Qa v15 (
Jc K (.tuple #[.pointer none,v13]) g1 n11) (
Qi [.pointer none] [(0,none,v12)] fun c18=>
Xn (.agg c18.toArray) fun c19=>
Jw c19 .exact g1 n11 fun l19 g2 n19=>
Jc K (.tuple #[ptr l19 0,.int .i64 0]) g2 n19)
theorem Xds (C:CT) (a0 a1:Value) (g:G) (n:Nat) (K:Cont):Qdy C a0 a1 g n K=Zg Tryz.prog C Qbl [a0,a1] g n K:=by kernel_rfl
def Jaw (C:CT) (a0 a1:Value) (g:G) (n:Nat) (K:Cont):Prop:=
Zp a0 fun v6=>
Zd v6 fun l7 o7=>
C Qa1 [(ptr l7 (o7+0)),a1] g n fun v9 g1 n9=>
Jc K v9 g1 n9
theorem QaV (C:CT) (a0 a1:Value) (g:G) (n:Nat) (K:Cont):Jaw C a0 a1 g n K=Zg Tryz.prog C Zw [a0,a1] g n K:=by kernel_rfl
def JdY (C:CT) (a0 a1:Value) (g:G) (n:Nat) (K:Cont):Prop:=
Qb .int .geq a0 (.int .i64 0) fun v6=>
Qa v6 (
Qb .int .lss a0 (.int .i64 64) fun v9=>
Qa v9 (
Qb .int .geq a1 (.int .i64 0) fun v13=>
Qa v13 (
Qb .int .lss a1 (.int .i64 8) fun v17=>
Jc K v17 g n) (
Jc K (.bool false) g n)) (
Jc K (.bool false) g n)) (
Jc K (.bool false) g n)
theorem ZdX (C:CT) (a0 a1:Value) (g:G) (n:Nat) (K:Cont):JdY C a0 a1 g n K=Zg Tryz.prog C XaD [a0,a1] g n K:=by kernel_rfl
def Ja8 (C:CT) (a0 a1:Value) (g:G) (n:Nat) (K:Cont):Prop:=
Jw [.int .i64 0,.int .i64 0,.int .u64 0,.int .u64 0,.int .u64 0,.int .u64 0,.int .u64 0,.int .u64 0,.int .u64 0,.int .u64 0,.int .i64 0] .exact g n fun l4 g1 n4=>
Zp a0 fun v9=>
Zd v9 fun l10 o10=>
kLd g1 l10 (o10+0) fun v11=>
C Zai [v11,a1] g1 n4 fun v13 g2 n13=>
Xd v13 0 fun v14=>
Xd v13 1 fun v15=>
Jw [.int .i64 0,.int .i64 0,.int .u64 0,.int .u64 0,.int .u64 0,.int .u64 0,.int .u64 0,.int .u64 0,.int .u64 0,.int .u64 0,.int .i64 0] .exact g2 n13 fun l5 g3 n5=>
Xn v14 fun cg4=>
cg4.length=11∧Qx g3 l5 0 cg4 fun g4=>
Zo g4 l5 0 11 fun c16=>
Xn (.agg c16.toArray) fun cg5=>
cg5.length=11∧Qx g4 l4 0 cg5 fun g5=>
Zo g5 l4 0 11 fun r0=>
Jc K (.agg r0.toArray) g5 n5
theorem XbA (C:CT) (a0 a1:Value) (g:G) (n:Nat) (K:Cont):Ja8 C a0 a1 g n K=Zg Tryz.prog C Xo [a0,a1] g n K:=by kernel_rfl
def JaR (C:CT) (a0 a1:Value) (g:G) (n:Nat) (K:Cont):Prop:=
C ZI [a0,a1] g n fun v7 g1 n7=>
Qb .int .geq v7 (.int .i64 0) fun v9=>
Qa v9 (
C Qu [a0,a1] g1 n7 fun v12 g2 n12=>
C ZM [a0] g2 n12 fun v15 g3 n15=>
Xc v12 v7 11 fun v16=>
Zd v16 fun l17 o17=>
kSt g3 l17 (o17+10) v15 fun g4=>
Jc K (.tuple #[]) g4 n15) (
Jc K (.tuple #[]) g1 n7)
theorem Xbv (C:CT) (a0 a1:Value) (g:G) (n:Nat) (K:Cont):JaR C a0 a1 g n K=Zg Tryz.prog C Qac [a0,a1] g n K:=by kernel_rfl
def JM (C:CT) (K:Cont) (t:Env) (g:G) (n:Nat):Prop:=
Zp (t 0) fun v43=>
Zd v43 fun l44 o44=>
kLd g l44 (o44+0) fun v45=>
Zd (t 9) fun l48 o48=>
Zo g l48 o48 8 fun c48=>
C XE [v45,t 1,t 2,.agg c48.toArray] g n fun v49 g6 n49=>
Qi [.int .i64 0,.int .i64 0,.bool false,.bool false,.int .u64 0,.int .u64 0,.int .u64 0,.int .u64 0,.int .u64 0,.int .u64 0,.int .u64 0,.int .u64 0] [(0,none,t 3),(1,none,t 1)] fun c52=>
Qi (reps 1 [.int .i64 0,.int .i64 0,.bool false,.bool false,.int .u64 0,.int .u64 0,.int .u64 0,.int .u64 0,.int .u64 0,.int .u64 0,.int .u64 0,.int .u64 0]) [(0,some 12,.agg c52.toArray)] fun c53=>
Jw c53 .exact g6 n49 fun l53 g7 n53=>
Jc K (.slice (some ⟨l53,0,none⟩) 1 1) g7 n53
def Xbg (C:CT) (a0 a1 a2 a3 a4:Value) (g:G) (n:Nat) (K:Cont):Prop:=
Xn a4 fun c9=>
Jw c9 .exact g n fun l9 g1 n9=>
C Zaj [a0] g1 n9 fun v14 g2 n14=>
kUn .not v14 fun v15=>
Qa v15 (
Jc K (.slice none 0 0) g2 n14) (
Qb .int .neq a2 (.int .i64 6) fun v17=>
Qa v17 (
Zp a0 fun v20=>
Zd v20 fun l21 o21=>
kLd g2 l21 (o21+0) fun v22=>
C Jai [v22,a1] g2 n14 fun v24 g3 n24=>
Xd v24 0 fun v25=>
Xd v24 1 fun v26=>
kUn .not v25 fun v29=>
Qa v29 (
Qb .int .lss v26 (.int .i64 0) fun v32=>
Qa v32 (
Jc K (.slice none 0 0) g3 n24) (
kUn .not v25 fun v36=>
Qa v36 (
C Xo [a0,v26] g3 n24 fun v40 g4 n40=>
C Q0 [a0,v40] g4 n40 fun v41 g5 n41=>
Jc K v41 g5 n41) (
JM C K (puts (Qq [a0,a1,a2,a3,a4]) [(9,ptr l9 0),(10,.slice none 0 0),(13,a0),(14,v14),(15,v15),(16,a2),(17,v17),(19,a0),(20,v20),(21,(ptr l21 (o21+0))),(22,v22),(23,a1),(24,v24),(18,v24),(25,v25),(26,v26),(11,v25),(12,v26),(28,v25),(29,v29),(30,.bool true),(31,v26),(32,v32),(33,v32),(27,v32),(35,v25),(36,v36),(34,v36)]) g3 n24))) (
kUn .not v25 fun v36=>
Qa v36 (
C Xo [a0,v26] g3 n24 fun v40 g8 n40=>
C Q0 [a0,v40] g8 n40 fun v41 g9 n41=>
Jc K v41 g9 n41) (
JM C K (puts (Qq [a0,a1,a2,a3,a4]) [(9,ptr l9 0),(10,.slice none 0 0),(13,a0),(14,v14),(15,v15),(16,a2),(17,v17),(19,a0),(20,v20),(21,(ptr l21 (o21+0))),(22,v22),(23,a1),(24,v24),(18,v24),(25,v25),(26,v26),(11,v25),(12,v26),(28,v25),(29,v29),(30,.bool false),(31,undef),(32,undef),(33,.bool false),(27,.bool false),(35,v25),(36,v36),(34,v36)]) g3 n24))) (
JM C K (puts (Qq [a0,a1,a2,a3,a4]) [(9,ptr l9 0),(10,.slice none 0 0),(13,a0),(14,v14),(15,v15),(16,a2),(17,v17)]) g2 n14))
theorem ZbN (C:CT) (a0 a1 a2 a3 a4:Value) (g:G) (n:Nat) (K:Cont):Xbg C a0 a1 a2 a3 a4 g n K=Zg Tryz.prog C JN [a0,a1,a2,a3,a4] g n K:=by kernel_rfl
def Zdt (C:CT) (a0:Value) (g:G) (n:Nat) (K:Cont):Prop:=
Xn a0 fun c1=>
Jw c1 .exact g n fun l1 g1 n1=>
Zo g1 l1 0 15 fun c3=>
C XaF [.agg c3.toArray] g1 n1 fun v4 g2 n4=>
Qa v4 (
kLd g2 l1 (0+12) fun v7=>
Qb .int .eql v7 (.int .i64 4) fun v8=>
Qa v8 (
kLd g2 l1 (0+14) fun v17=>
Qb .int .eql v17 (.int .u8 0) fun v18=>
Jc K v18 g2 n4) (
kLd g2 l1 (0+12) fun v11=>
Qb .int .eql v11 (.int .i64 5) fun v12=>
Qa v12 (
kLd g2 l1 (0+14) fun v17=>
Qb .int .eql v17 (.int .u8 0) fun v18=>
Jc K v18 g2 n4) (
Jc K (.bool false) g2 n4))) (
Jc K (.bool false) g2 n4)
theorem Zdk (C:CT) (a0:Value) (g:G) (n:Nat) (K:Cont):Zdt C a0 g n K=Zg Tryz.prog C ZaM [a0] g n K:=by kernel_rfl
def QcX (C:CT) (a0:Value) (g:G) (n:Nat) (K:Cont):Prop:=
Xn a0 fun c1=>
Jw c1 .exact g n fun l1 g1 n1=>
Jw [.bool false,.bool false,.int .u64 0,.int .u64 0,.int .u64 0,.int .u64 0,.int .u64 0,.int .u64 0,.int .u64 0,.int .u64 0,.int .i64 0,.int .u8 0,.int .i64 0,.int .i64 0,.int .u8 0] .exact g1 n1 fun l2 g2 n2=>
Zo g2 l1 0 15 fun c7=>
C ZaM [.agg c7.toArray] g2 n2 fun v8 g3 n8=>
kUn .not v8 fun v9=>
Qa v9 (
Qi [.bool false,.bool false,.int .u64 0,.int .u64 0,.int .u64 0,.int .u64 0,.int .u64 0,.int .u64 0,.int .u64 0,.int .u64 0,.int .i64 0,.int .u8 0,.int .i64 0,.int .i64 0,.int .u8 0] [] fun c10=>
Xn (.agg c10.toArray) fun cg4=>
cg4.length=15∧Qx g3 l2 0 cg4 fun g4=>
Zo g4 l2 0 15 fun r0=>
Jc K (.tuple #[.agg r0.toArray,.slice none 0 0,.int .i64 16]) g4 n8) (
Zo g3 l1 0 15 fun c11=>
Qi [.bool false,.bool false,.int .u64 0,.int .u64 0,.int .u64 0,.int .u64 0,.int .u64 0,.int .u64 0,.int .u64 0,.int .u64 0,.int .i64 0,.int .u8 0,.int .i64 0,.int .i64 0,.int .u8 0,.int .i64 0,.slice none 0 0] [(0,some 15,.agg c11.toArray)] fun c12=>
Xn (.agg c12.toArray) fun c13=>
Jw c13 .exact g3 n8 fun l13 g5 n13=>
kSt g5 l13 (0+0+1) (.bool false) fun g6=>
kLd g6 l1 (0+13) fun v19=>
C QW [ptr l13 0] g6 n13 fun v21 g7 n21=>
C QF [ptr l13 0,v19,.int .i64 14] g7 n21 fun v24 g8 n24=>
Zo g8 l13 (0+0) 15 fun c28=>
kLd g8 l13 (0+16) fun v32=>
Xn (.agg c28.toArray) fun cg9=>
cg9.length=15∧Qx g8 l2 0 cg9 fun g9=>
(Zd (ptr l13 (0+16)) fun l _=>g9 l=g8 l)∧Zo g9 l2 0 15 fun r0=>
Jc K (.tuple #[.agg r0.toArray,v32,.int .i64 0]) g9 n24)
theorem Zc0 (C:CT) (a0:Value) (g:G) (n:Nat) (K:Cont):QcX C a0 g n K=Zg Tryz.prog C QaY [a0] g n K:=by kernel_rfl
def Xy (C:CT) (K:Cont) (t:Env) (g:G) (n:Nat):Prop:=
Zp (t 0) fun v46=>
Zd v46 fun l47 o47=>
kLd g l47 (o47+2) fun v48=>
Qb .int .add (t 5) (t 6) fun v51=>
Ju v48 (some v51) none none 9 fun v52=>
Zaw v52 [.int .i64 0,.int .u64 0,.int .u64 0,.int .u64 0,.int .u64 0,.int .u64 0,.int .u64 0,.int .u64 0,.int .u64 0] g fun v_ g5=>
Zp (t 0) fun v55=>
Zd v55 fun l56 o56=>
kLd g5 l56 (o56+2) fun v57=>
Qb .int .add (t 5) (t 6) fun v60=>
Ju v57 none (some v60) none 9 fun v61=>
Zp (t 0) fun v62=>
Zd v62 fun l63 o63=>
kSt g5 l63 (o63+2) v61 fun g6=>
Jc K (.int .i64 0) g6 n
def XG (C:CT) (K:Cont) (J:Zl) (t:Env) (g:G) (n:Nat):Prop:=
Zp (t 0) fun v32=>
Zd v32 fun l33 o33=>
kLd g l33 (o33+2) fun v34=>
Ju v34 (some (t 5)) none none 9 fun v36=>
Zp (t 0) fun v38=>
Zd v38 fun l39 o39=>
kLd g l39 (o39+2) fun v40=>
Qb .int .add (t 5) (.int .i64 1) fun v42=>
Ju v40 (some v42) none none 9 fun v43=>
Qbj v36 v43 9 g fun v44 g4=>
J (puts t [(31,t 0),(32,v32),(33,(ptr l33 (o33+2))),(34,v34),(35,t 5),(36,v36),(37,t 0),(38,v38),(39,(ptr l39 (o39+2))),(40,v40),(41,t 5),(42,v42),(43,v43),(44,v44),(6,v44)]) g4 n
def Xat (C:CT) (a0 a1:Value) (J:Zl) (g:G) (n:Nat) (K:Cont):Prop:=
isCell a1=true∧Jw [a1] .exact g n fun l3 g1 n3=>
Qb .ptr .eql a0 (.pointer none) fun v8=>
Qa v8 (
Jc K (.int .i64 1) g1 n3) (
Zp a0 fun v10=>
Zd v10 fun l11 o11=>
kLd g1 l11 (o11+2) fun v12=>
C Zr [v12,(.func (.func Jt) #[] #[ptr l3 0])] g1 n3 fun v14 g2 n14=>
Qb .int .lss v14 (.int .i64 0) fun v16=>
Qa v16 (
Jc K (.int .i64 14) g2 n14) (
Zp a0 fun v18=>
Zd v18 fun l19 o19=>
kLd g2 l19 (o19+0) fun v20=>
kLd g2 l3 0 fun v21=>
Zp a0 fun v23=>
Zd v23 fun l24 o24=>
kLd g2 l24 (o24+2) fun v25=>
Xc v25 v14 9 fun v27=>
Zd v27 fun l28 o28=>
Zo g2 l28 (o28+1) 8 fun c29=>
C Qaj [v20,v21,.agg c29.toArray] g2 n14 fun v30 g3 n30=>
J (puts (Qq [a0,a1]) [(3,ptr l3 0),(4,.int .i64 0),(7,a0),(8,v8),(9,a0),(10,v10),(11,(ptr l11 (o11+2))),(12,v12),(13,(.func (.func Jt) #[] #[ptr l3 0])),(14,v14),(5,v14),(15,v14),(16,v16),(17,a0),(18,v18),(19,(ptr l19 (o19+0))),(20,v20),(21,v21),(22,a0),(23,v23),(24,(ptr l24 (o24+2))),(25,v25),(26,v14),(27,v27),(28,(ptr l28 (o28+1))),(29,.agg c29.toArray),(30,v30)]) g3 n30))
def XaE (C:CT) (a0 a1:Value) (g:G) (n:Nat) (K:Cont):Prop:=Xat C a0 a1 (XG C K (Xy C K)) g n K
theorem QaR (C:CT) (t:Env) (g:G) (n:Nat) (K:Cont):Xy C K t g n=QaG Tryz.prog C [1,1,1,1,1,1] Jm K t g n:=by kernel_rfl
theorem Xa3 (C:CT) (K:Cont):Xy C K=QaG Tryz.prog C [1,1,1,1,1,1] Jm K:=funext fun t=>funext fun g=>funext fun n=>QaR C t g n K
theorem ZaU (C:CT) (J:Zl) (t:Env) (g:G) (n:Nat) (K:Cont):XG C K J t g n=Xbn Tryz.prog C [1,1,1,1,1] [1] J Jm K t g n:=by kernel_rfl
theorem Qa0 (C:CT) (K:Cont):XG C K (Xy C K)=QaG Tryz.prog C [1,1,1,1,1] Jm K:=by
 rw [Xa3]
 exact (funext fun t=>funext fun g=>funext fun n=>ZaU C _ t g n K).trans (JbQ Tryz.prog C [1,1,1,1,1] [1] Jm K)
theorem Ja1 (C:CT) (a0 a1:Value) (J:Zl) (g:G) (n:Nat) (K:Cont):Xat C a0 a1 J g n K=Zcl Tryz.prog C [1,1,1,1,1] J Jm [a0,a1] g n K:=by kernel_rfl
theorem JbT (C:CT) (a0 a1:Value) (g:G) (n:Nat) (K:Cont):XaE C a0 a1 g n K=Zg Tryz.prog C Jm [a0,a1] g n K:=by
 unfold XaE
 rw [Ja1,Qa0]
 exact Xco Tryz.prog C [1,1,1,1,1] Jm [a0,a1] g n K
def Zal (C:CT) (K:Cont) (t:Env) (g:G) (n:Nat):Prop:=
Zd (t 1) fun l41 o41=>
kLd g l41 (o41+2) fun v42=>
Qa v42 (
Jc K (.bool true) g n) (
Qb .int .and (t 3) (.int .i64 4) fun v45=>
Qb .int .neq v45 (.int .i64 0) fun v46=>
Qa v46 (
Jc K (.bool true) g n) (
Zd (t 1) fun l49 o49=>
Zo g l49 (o49+4) 8 fun c50=>
Qi [.int .u64 0,.int .u64 0,.int .u64 0,.int .u64 0,.int .u64 0,.int .u64 0,.int .u64 0,.int .u64 0] [] fun c51=>
Qb (.agg [.i,.i,.i,.i,.i,.i,.i,.i]) .eql (.agg c50.toArray) (.agg c51.toArray) fun v52=>
Jc K v52 g n))
def Xeb (C:CT) (a0:Value) (g:G) (n:Nat) (K:Cont):Prop:=
Xn a0 fun c1=>
Jw c1 .exact g n fun l1 g1 n1=>
kLd g1 l1 (0+0) fun v5=>
Qb .int .lss v5 (.int .i64 1) fun v6=>
Qa v6 (
Jc K (.bool false) g1 n1) (
kLd g1 l1 (0+0) fun v9=>
Qb .int .gtr v9 (.int .i64 14) fun v10=>
Qa v10 (
Jc K (.bool false) g1 n1) (
kLd g1 l1 (0+1) fun v14=>
Qb .int .lss v14 (.int .i64 0) fun v15=>
Qa v15 (
Jc K (.bool false) g1 n1) (
kLd g1 l1 (0+1) fun v19=>
Qb .int .geq v19 (.int .i64 64) fun v20=>
Qa v20 (
Jc K (.bool false) g1 n1) (
kLd g1 l1 (0+0) fun v24=>
C ZcM [] g1 n1 fun v22 g2 n22=>
(Zd (ptr l1 (0+0)) fun l _=>g2 l=g1 l)∧Xdg v22 v24 15 1 none fun v25=>
kLd g2 l1 (0+2) fun v28=>
Qa v28 (
Qb .int .and v25 (.int .i64 1) fun v31=>
Qb .int .eql v31 (.int .i64 0) fun v32=>
Qa v32 (
Qa v32 (
Jc K (.bool false) g2 n22) (
Zal C K (puts (Qq [a0]) [(1,ptr l1 0),(2,.bool false),(4,(ptr l1 (0+0))),(5,v5),(6,v6),(7,.bool false),(8,(ptr l1 (0+0))),(9,v9),(10,v10),(11,v10),(12,.bool false),(13,(ptr l1 (0+1))),(14,v14),(15,v15),(16,v15),(17,.bool false),(18,(ptr l1 (0+1))),(19,v19),(20,v20),(21,v20),(23,(ptr l1 (0+0))),(24,v24),(22,v22),(25,v25),(3,v25),(27,(ptr l1 (0+2))),(28,v28),(29,.bool true),(30,v25),(31,v31),(32,v32),(33,v32),(26,v32)]) g2 n22)) (
kLd g2 l1 (0+3) fun v35=>
Qa v35 (
Qb .int .and v25 (.int .i64 2) fun v38=>
Qb .int .eql v38 (.int .i64 0) fun v39=>
Qa v39 (
Jc K (.bool false) g2 n22) (
Zal C K (puts (Qq [a0]) [(1,ptr l1 0),(2,.bool false),(4,(ptr l1 (0+0))),(5,v5),(6,v6),(7,.bool false),(8,(ptr l1 (0+0))),(9,v9),(10,v10),(11,v10),(12,.bool false),(13,(ptr l1 (0+1))),(14,v14),(15,v15),(16,v15),(17,.bool false),(18,(ptr l1 (0+1))),(19,v19),(20,v20),(21,v20),(23,(ptr l1 (0+0))),(24,v24),(22,v22),(25,v25),(3,v25),(27,(ptr l1 (0+2))),(28,v28),(29,.bool true),(30,v25),(31,v31),(32,v32),(33,v32),(26,v32),(34,(ptr l1 (0+3))),(35,v35),(36,.bool true),(37,v25),(38,v38),(39,v39),(40,v39),(26,v39)]) g2 n22)) (
Zal C K (puts (Qq [a0]) [(1,ptr l1 0),(2,.bool false),(4,(ptr l1 (0+0))),(5,v5),(6,v6),(7,.bool false),(8,(ptr l1 (0+0))),(9,v9),(10,v10),(11,v10),(12,.bool false),(13,(ptr l1 (0+1))),(14,v14),(15,v15),(16,v15),(17,.bool false),(18,(ptr l1 (0+1))),(19,v19),(20,v20),(21,v20),(23,(ptr l1 (0+0))),(24,v24),(22,v22),(25,v25),(3,v25),(27,(ptr l1 (0+2))),(28,v28),(29,.bool true),(30,v25),(31,v31),(32,v32),(33,v32),(26,v32),(34,(ptr l1 (0+3))),(35,v35),(36,.bool false),(37,undef),(38,undef),(39,undef),(40,.bool false),(26,.bool false)]) g2 n22))) (
kLd g2 l1 (0+3) fun v35=>
Qa v35 (
Qb .int .and v25 (.int .i64 2) fun v38=>
Qb .int .eql v38 (.int .i64 0) fun v39=>
Qa v39 (
Jc K (.bool false) g2 n22) (
Zal C K (puts (Qq [a0]) [(1,ptr l1 0),(2,.bool false),(4,(ptr l1 (0+0))),(5,v5),(6,v6),(7,.bool false),(8,(ptr l1 (0+0))),(9,v9),(10,v10),(11,v10),(12,.bool false),(13,(ptr l1 (0+1))),(14,v14),(15,v15),(16,v15),(17,.bool false),(18,(ptr l1 (0+1))),(19,v19),(20,v20),(21,v20),(23,(ptr l1 (0+0))),(24,v24),(22,v22),(25,v25),(3,v25),(27,(ptr l1 (0+2))),(28,v28),(29,.bool false),(30,undef),(31,undef),(32,undef),(33,.bool false),(26,.bool false),(34,(ptr l1 (0+3))),(35,v35),(36,.bool true),(37,v25),(38,v38),(39,v39),(40,v39),(26,v39)]) g2 n22)) (
Zal C K (puts (Qq [a0]) [(1,ptr l1 0),(2,.bool false),(4,(ptr l1 (0+0))),(5,v5),(6,v6),(7,.bool false),(8,(ptr l1 (0+0))),(9,v9),(10,v10),(11,v10),(12,.bool false),(13,(ptr l1 (0+1))),(14,v14),(15,v15),(16,v15),(17,.bool false),(18,(ptr l1 (0+1))),(19,v19),(20,v20),(21,v20),(23,(ptr l1 (0+0))),(24,v24),(22,v22),(25,v25),(3,v25),(27,(ptr l1 (0+2))),(28,v28),(29,.bool false),(30,undef),(31,undef),(32,undef),(33,.bool false),(26,.bool false),(34,(ptr l1 (0+3))),(35,v35),(36,.bool false),(37,undef),(38,undef),(39,undef),(40,.bool false),(26,.bool false)]) g2 n22))))))
theorem XdI (C:CT) (a0:Value) (g:G) (n:Nat) (K:Cont):Xeb C a0 g n K=Zg Tryz.prog C Xau [a0] g n K:=by kernel_rfl
def Za6 (C:CT) (a0:Value) (g:G) (n:Nat) (K:Cont):Prop:=
Qb .ptr .eql a0 (.pointer none) fun v4=>
Qa v4 (
Jc K (.slice none 0 0) g n) (
Zp a0 fun v6=>
Zd v6 fun l7 o7=>
kLd g l7 (o7+0) fun v8=>
C Zy [v8] g n fun v9 g1 n9=>
Jc K v9 g1 n9)
theorem ZbB (C:CT) (a0:Value) (g:G) (n:Nat) (K:Cont):Za6 C a0 g n K=Zg Tryz.prog C Qak [a0] g n K:=by kernel_rfl
def XB (C:CT) (K:Cont) (t:Env) (g:G) (n:Nat):Prop:=
Zp (t 0) fun v59=>
Zd v59 fun l60 o60=>
kSt g l60 (o60+2) (t 9) fun g8=>
Jc K (.int .i64 0) g8 n
def XJ (C:CT) (K:Cont) (J:Zl) (t:Env) (g:G) (n:Nat):Prop:=
Zp (t 0) fun v35=>
Zd v35 fun l36 o36=>
kLd g l36 (o36+2) fun v37=>
QaN v37 fun v38=>
Qb .int .add v38 (.int .i64 1) fun v39=>
QbD v39 v39 [.int .i64 0,.int .u64 0,.int .u64 0,.int .u64 0,.int .u64 0,.int .u64 0,.int .u64 0,.int .u64 0,.int .u64 0] 72 g n fun v40 g5 n40=>
Zp (t 0) fun v43=>
Zd v43 fun l44 o44=>
kLd g5 l44 (o44+2) fun v45=>
Qbj v40 v45 9 g5 fun v46 g6=>
Zp (t 0) fun v49=>
Zd v49 fun l50 o50=>
kLd g6 l50 (o50+2) fun v51=>
QaN v51 fun v52=>
Zd (t 5) fun l54 o54=>
Zo g6 l54 o54 8 fun c54=>
Qi [.int .i64 0,.int .u64 0,.int .u64 0,.int .u64 0,.int .u64 0,.int .u64 0,.int .u64 0,.int .u64 0,.int .u64 0] [(0,none,t 1),(1,some 8,.agg c54.toArray)] fun c55=>
Xc v40 v52 9 fun v56=>
Zd v56 fun lg7 og7=>
Xn (.agg c55.toArray) fun cg7=>
cg7.length=9∧Qx g6 lg7 og7 cg7 fun g7=>
J (puts t [(34,t 0),(35,v35),(36,(ptr l36 (o36+2))),(37,v37),(38,v38),(39,v39),(40,v40),(9,v40),(41,v40),(42,t 0),(43,v43),(44,(ptr l44 (o44+2))),(45,v45),(46,v46),(47,v40),(48,t 0),(49,v49),(50,(ptr l50 (o50+2))),(51,v51),(52,v52),(53,t 1),(54,.agg c54.toArray),(55,.agg c55.toArray),(56,v56)]) g7 n40
def Qax (C:CT) (a0 a1 a2:Value) (J:Zl) (g:G) (n:Nat) (K:Cont):Prop:=
Xn a2 fun c5=>
Jw c5 .exact g n fun l5 g1 n5=>
Qb .ptr .eql a0 (.pointer none) fun v11=>
Qa v11 (
Jc K (.int .i64 1) g1 n5) (
Zp a0 fun v14=>
Zd v14 fun l15 o15=>
kLd g1 l15 (o15+0) fun v16=>
C Zar [v16,a1] g1 n5 fun v18 g2 n18=>
Xd v18 0 fun v19=>
Xd v18 1 fun v20=>
Jw [.int .u64 0,.int .u64 0,.int .u64 0,.int .u64 0,.int .u64 0,.int .u64 0,.int .u64 0,.int .u64 0] .exact g2 n18 fun l7 g3 n7=>
Xn v19 fun cg4=>
cg4.length=8∧Qx g3 l7 0 cg4 fun g4=>
Qb .int .neq v20 (.int .i64 0) fun v22=>
Qa v22 (
Jc K v20 g4 n7) (
Zp a0 fun v25=>
Zd v25 fun l26 o26=>
kLd g4 l26 (o26+2) fun v27=>
QaN v27 fun v28=>
Zp a0 fun v30=>
Zd v30 fun l31 o31=>
kLd g4 l31 (o31+1) fun v32=>
Qb .int .geq v28 v32 fun v33=>
Qa v33 (
Jc K (.int .i64 13) g4 n7) (
J (puts (Qq [a0,a1,a2]) [(5,ptr l5 0),(6,.int .i64 0),(10,a0),(11,v11),(13,a0),(14,v14),(15,(ptr l15 (o15+0))),(16,v16),(17,a1),(18,v18),(12,v18),(19,v19),(20,v20),(7,ptr l7 0),(8,v20),(21,v20),(22,v22),(24,a0),(25,v25),(26,(ptr l26 (o26+2))),(27,v27),(28,v28),(29,a0),(30,v30),(31,(ptr l31 (o31+1))),(32,v32),(33,v33)]) g4 n7)))
def XaO (C:CT) (a0 a1 a2:Value) (g:G) (n:Nat) (K:Cont):Prop:=Qax C a0 a1 a2 (XJ C K (XB C K)) g n K
theorem Za3 (C:CT) (t:Env) (g:G) (n:Nat) (K:Cont):XB C K t g n=QaG Tryz.prog C [1,1,1,1,1,1,1] Zq K t g n:=by kernel_rfl
theorem Qba (C:CT) (K:Cont):XB C K=QaG Tryz.prog C [1,1,1,1,1,1,1] Zq K:=funext fun t=>funext fun g=>funext fun n=>Za3 C t g n K
theorem XaZ (C:CT) (J:Zl) (t:Env) (g:G) (n:Nat) (K:Cont):XJ C K J t g n=Xbn Tryz.prog C [1,1,1,1] [1,1,1] J Zq K t g n:=by kernel_rfl
theorem Xba (C:CT) (K:Cont):XJ C K (XB C K)=QaG Tryz.prog C [1,1,1,1] Zq K:=by
 rw [Qba]
 exact (funext fun t=>funext fun g=>funext fun n=>XaZ C _ t g n K).trans (JbQ Tryz.prog C [1,1,1,1] [1,1,1] Zq K)
theorem Qbb (C:CT) (a0 a1 a2:Value) (J:Zl) (g:G) (n:Nat) (K:Cont):Qax C a0 a1 a2 J g n K=Zcl Tryz.prog C [1,1,1,1] J Zq [a0,a1,a2] g n K:=by kernel_rfl
theorem XbX (C:CT) (a0 a1 a2:Value) (g:G) (n:Nat) (K:Cont):XaO C a0 a1 a2 g n K=Zg Tryz.prog C Zq [a0,a1,a2] g n K:=by
 unfold XaO
 rw [Qbb,Xba]
 exact Xco Tryz.prog C [1,1,1,1] Zq [a0,a1,a2] g n K
def Ja7 (C:CT) (a0:Value) (g:G) (n:Nat) (K:Cont):Prop:=
Qb .ptr .eql a0 (.pointer none) fun v4=>
Qa v4 (
Jc K (.bool true) g n) (
Zp a0 fun v7=>
Zd v7 fun l8 o8=>
kLd g l8 (o8+0) fun v9=>
C JG [v9] g n fun v10 g1 n10=>
C Zx [v10,(.func (.func J7) #[] #[])] g1 n10 fun v11 g2 n11=>
kUn .not v11 fun v12=>
Jc K v12 g2 n11)
theorem ZbA (C:CT) (a0:Value) (g:G) (n:Nat) (K:Cont):Ja7 C a0 g n K=Zg Tryz.prog C Zaj [a0] g n K:=by kernel_rfl
def JZ (C:CT) (K:Cont) (t:Env) (g:G) (n:Nat):Prop:=
Zp (t 0) fun v18=>
Zd v18 fun l19 o19=>
kLd g l19 (o19+0) fun v20=>
Zd (t 3) fun l21 o21=>
kLd g l21 (o21+1) fun v22=>
Zd (t 3) fun l24 o24=>
Zo g l24 (o24+2) 8 fun c25=>
C XE [v20,v22,t 6,.agg c25.toArray] g n fun v26 g6 n26=>
Zd (t 5) fun l27 o27=>
Zo g6 l27 o27 12 fun c27=>
Qi (reps 1 [.int .i64 0,.int .i64 0,.bool false,.bool false,.int .u64 0,.int .u64 0,.int .u64 0,.int .u64 0,.int .u64 0,.int .u64 0,.int .u64 0,.int .u64 0]) [(0,some 12,.agg c27.toArray)] fun c28=>
Jw c28 .exact g6 n26 fun l28 g7 n28=>
Jc K (.slice (some ⟨l28,0,none⟩) 1 1) g7 n28
def Qbm (C:CT) (a0 a1:Value) (g:G) (n:Nat) (K:Cont):Prop:=
Xn a1 fun c3=>
Jw c3 .exact g n fun l3 g1 n3=>
kLd g1 l3 (0+1) fun v8=>
Qi [.int .i64 0,.int .i64 0,.bool false,.bool false,.int .u64 0,.int .u64 0,.int .u64 0,.int .u64 0,.int .u64 0,.int .u64 0,.int .u64 0,.int .u64 0] [(0,none,.int .i64 3),(1,none,v8)] fun c9=>
Jw [.int .i64 0,.int .i64 0,.bool false,.bool false,.int .u64 0,.int .u64 0,.int .u64 0,.int .u64 0,.int .u64 0,.int .u64 0,.int .u64 0,.int .u64 0] .exact g1 n3 fun l5 g2 n5=>
Xn (.agg c9.toArray) fun cg3=>
cg3.length=12∧Qx g2 l5 0 cg3 fun g3=>
kLd g3 l3 (0+0) fun v11=>
Qb .int .eql v11 (.int .i64 3) fun v12=>
Qa v12 (
Zo g3 l3 (0+2) 8 fun c14=>
kSt g3 l5 (0+2) (.bool true) fun g4=>
(Zd (ptr l3 (0+2)) fun l _=>g4 l=g3 l)∧Xn (.agg c14.toArray) fun cg5=>
cg5.length=8∧Qx g4 l5 (0+4) cg5 fun g5=>
JZ C K (puts (Qq [a0,a1]) [(3,ptr l3 0),(4,.slice none 0 0),(7,(ptr l3 (0+1))),(8,v8),(9,.agg c9.toArray),(5,ptr l5 0),(6,.int .i64 7),(10,(ptr l3 (0+0))),(11,v11),(12,v12),(13,(ptr l3 (0+2))),(14,.agg c14.toArray),(6,.int .i64 9),(15,(ptr l5 (0+2))),(16,(ptr l5 (0+4)))]) g5 n5) (
JZ C K (puts (Qq [a0,a1]) [(3,ptr l3 0),(4,.slice none 0 0),(7,(ptr l3 (0+1))),(8,v8),(9,.agg c9.toArray),(5,ptr l5 0),(6,.int .i64 7),(10,(ptr l3 (0+0))),(11,v11),(12,v12)]) g3 n5)
theorem QbO (C:CT) (a0 a1:Value) (g:G) (n:Nat) (K:Cont):Qbm C a0 a1 g n K=Zg Tryz.prog C Q0 [a0,a1] g n K:=by kernel_rfl
def ZaX (C:CT) (a0:Value) (g:G) (n:Nat) (K:Cont):Prop:=
Qb .ptr .eql a0 (.pointer none) fun v4=>
Qa v4 (
Jc K (.slice none 0 0) g n) (
Zp a0 fun v6=>
Zd v6 fun l7 o7=>
kLd g l7 (o7+2) fun v8=>
C Xt [v8] g n fun v9 g1 n9=>
C Qp [v9,(.func (.func Zav) #[] #[])] g1 n9 fun v10 g2 n10=>
Jc K v10 g2 n10)
theorem Xbs (C:CT) (a0:Value) (g:G) (n:Nat) (K:Cont):ZaX C a0 g n K=Zg Tryz.prog C JG [a0] g n K:=by kernel_rfl
def QaQ (C:CT) (a0 a1:Value) (g:G) (n:Nat) (K:Cont):Prop:=
Qb .ptr .eql a0 (.pointer none) fun v7=>
Qa v7 (
Jc K (.slice none 0 0) g n) (
C XaD [a1,.int .i64 0] g n fun v10 g1 n10=>
kUn .not v10 fun v11=>
Qa v11 (
Jc K (.slice none 0 0) g1 n10) (
C JS [a0,a1] g1 n10 fun v16 g2 n16=>
Qa v16 (
Jc K (.slice none 0 0) g2 n16) (
C Xo [a0,a1] g2 n16 fun v20 g3 n20=>
Jw [.int .i64 0,.int .i64 0,.int .u64 0,.int .u64 0,.int .u64 0,.int .u64 0,.int .u64 0,.int .u64 0,.int .u64 0,.int .u64 0,.int .i64 0] .exact g3 n20 fun l5 g4 n5=>
Xn v20 fun cg5=>
cg5.length=11∧Qx g4 l5 0 cg5 fun g5=>
kLd g5 l5 (0+0) fun v22=>
Qb .int .eql v22 (.int .i64 1) fun v23=>
Qa v23 (
Zo g5 l5 (0+2) 8 fun c27=>
C JN [a0,a1,.int .i64 6,.int .i64 2,.agg c27.toArray] g5 n5 fun v28 g6 n28=>
Jc K v28 g6 n28) (
Qi [.int .u64 0,.int .u64 0,.int .u64 0,.int .u64 0,.int .u64 0,.int .u64 0,.int .u64 0,.int .u64 0] [] fun c31=>
C JN [a0,a1,.int .i64 5,.int .i64 2,.agg c31.toArray] g5 n5 fun v32 g7 n32=>
Jc K v32 g7 n32))))
theorem Jbu (C:CT) (a0 a1:Value) (g:G) (n:Nat) (K:Cont):QaQ C a0 a1 g n K=Zg Tryz.prog C Zab [a0,a1] g n K:=by kernel_rfl
def Xa7 (C:CT) (a0 a1:Value) (g:G) (n:Nat) (K:Cont):Prop:=
Qb .ptr .eql a0 (.pointer none) fun v7=>
Qa v7 (
Jc K (.bool false) g n) (
C Xo [a0,a1] g n fun v10 g1 n10=>
Jw [.int .i64 0,.int .i64 0,.int .u64 0,.int .u64 0,.int .u64 0,.int .u64 0,.int .u64 0,.int .u64 0,.int .u64 0,.int .u64 0,.int .i64 0] .exact g1 n10 fun l5 g2 n5=>
Xn v10 fun cg3=>
cg3.length=11∧Qx g2 l5 0 cg3 fun g3=>
kLd g3 l5 (0+0) fun v12=>
Qb .int .eql v12 (.int .i64 2) fun v13=>
Qa v13 (
Jc K (.bool true) g3 n5) (
kLd g3 l5 (0+0) fun v16=>
Qb .int .eql v16 (.int .i64 3) fun v17=>
Jc K v17 g3 n5))
theorem QbB (C:CT) (a0 a1:Value) (g:G) (n:Nat) (K:Cont):Xa7 C a0 a1 g n K=Zg Tryz.prog C JS [a0,a1] g n K:=by kernel_rfl
def X1 (C:CT) (K:Cont) (t:Env) (g:G) (n:Nat):Prop:=
Qb .int .lss (t 9) (.int .i64 0) fun v36=>
Qa v36 (
Jc K (.int .i64 13) g n) (
Zd (t 7) fun l41 o41=>
Zo g l41 o41 8 fun c41=>
C ZM [t 0] g n fun v43 g5 n43=>
(Zd (t 7) fun l _=>g5 l=g l)∧Qi [.int .i64 0,.int .i64 0,.int .u64 0,.int .u64 0,.int .u64 0,.int .u64 0,.int .u64 0,.int .u64 0,.int .u64 0,.int .u64 0,.int .i64 0] [(0,none,t 2),(1,none,t 1),(2,some 8,.agg c41.toArray),(10,none,v43)] fun c44=>
Xc (t 10) (t 9) 11 fun v45=>
Zd v45 fun lg6 og6=>
Xn (.agg c44.toArray) fun cg6=>
cg6.length=11∧Qx g5 lg6 og6 cg6 fun g6=>
Jc K (.int .i64 0) g6 n43)
def Jbf (C:CT) (a0 a1 a2 a3:Value) (g:G) (n:Nat) (K:Cont):Prop:=
Xn a3 fun c7=>
Jw c7 .exact g n fun l7 g1 n7=>
Qb .ptr .eql a0 (.pointer none) fun v12=>
Qa v12 (
Jc K (.int .i64 1) g1 n7) (
Qb .int .lss a1 (.int .i64 0) fun v15=>
Qa v15 (
Jc K (.int .i64 1) g1 n7) (
Qb .int .lss a2 (.int .i64 1) fun v19=>
Qa v19 (
Jc K (.int .i64 1) g1 n7) (
Qb .int .gtr a2 (.int .i64 9) fun v23=>
Qa v23 (
Jc K (.int .i64 1) g1 n7) (
C ZI [a0,a1] g1 n7 fun v27 g2 n27=>
C Qu [a0,a1] g2 n27 fun v30 g3 n30=>
Qb .int .lss v27 (.int .i64 0) fun v32=>
Qa v32 (
C Qf [v30,(.func (.func Zav) #[] #[])] g3 n30 fun v34 g4 n34=>
X1 C K (puts (Qq [a0,a1,a2,a3]) [(7,ptr l7 0),(8,.int .i64 0),(11,a0),(12,v12),(13,.bool false),(14,a1),(15,v15),(16,v15),(17,.bool false),(18,a2),(19,v19),(20,v19),(21,.bool false),(22,a2),(23,v23),(24,v23),(25,a0),(26,a1),(27,v27),(28,a0),(29,a1),(30,v30),(9,v27),(10,v30),(31,v27),(32,v32),(33,v30),(34,v34),(9,v34)]) g4 n34) (
X1 C K (puts (Qq [a0,a1,a2,a3]) [(7,ptr l7 0),(8,.int .i64 0),(11,a0),(12,v12),(13,.bool false),(14,a1),(15,v15),(16,v15),(17,.bool false),(18,a2),(19,v19),(20,v19),(21,.bool false),(22,a2),(23,v23),(24,v23),(25,a0),(26,a1),(27,v27),(28,a0),(29,a1),(30,v30),(9,v27),(10,v30),(31,v27),(32,v32)]) g3 n30)))))
theorem ZbK (C:CT) (a0 a1 a2 a3:Value) (g:G) (n:Nat) (K:Cont):Jbf C a0 a1 a2 a3 g n K=Zg Tryz.prog C XE [a0,a1,a2,a3] g n K:=by kernel_rfl
def QbT (C:CT) (a0:Value) (g:G) (n:Nat) (K:Cont):Prop:=
Qb .ptr .eql a0 (.pointer none) fun v4=>
Qa v4 (
Jc K (.int .i64 0) g n) (
Zp a0 fun v6=>
Zd v6 fun l7 o7=>
kLd g l7 (o7+0) fun v8=>
QaN v8 fun v9=>
Jc K v9 g n)
theorem Xcd (C:CT) (a0:Value) (g:G) (n:Nat) (K:Cont):QbT C a0 g n K=Zg Tryz.prog C Qah [a0] g n K:=by kernel_rfl
def Zcm (C:CT) (K:Cont) (t:Env) (g:G) (n:Nat):Prop:=
Qa (t 87) (
Zd (t 1) fun l90 o90=>
kLd g l90 (o90+13) fun v91=>
C Qau [v91] g n fun v92 g4 n92=>
Jc K v92 g4 n92) (
Jc K (.bool false) g n)
def JF (C:CT) (K:Cont) (t:Env) (g:G) (n:Nat):Prop:=
Qa (t 76) (
Zd (t 1) fun l79 o79=>
kLd g l79 (o79+13) fun v80=>
C Qau [v80] g n fun v81 g3 n81=>
Qa v81 (
Zd (t 1) fun l83 o83=>
kLd g3 l83 (o83+14) fun v84=>
Qb .int .neq v84 (.int .u8 0) fun v85=>
Jc K v85 g3 n81) (
Jc K (.bool false) g3 n81)) (
Qb .int .eql (t 65) (.int .i64 4) fun v88=>
Qa v88 (
Zcm C K (puts t [(88,v88),(87,v88)]) g n) (
Qb .int .eql (t 65) (.int .i64 5) fun v89=>
Zcm C K (puts t [(88,v88),(87,v88),(89,v89),(87,v89)]) g n))
def Jd1 (C:CT) (a0:Value) (g:G) (n:Nat) (K:Cont):Prop:=
Xn a0 fun c1=>
Jw c1 .exact g n fun l1 g1 n1=>
kLd g1 l1 (0+10) fun v5=>
Qb .int .geq v5 (.int .i64 0) fun v6=>
Qa v6 (
kLd g1 l1 (0+10) fun v14=>
Qb .int .lss v14 (.int .i64 (-1)) fun v15=>
Qa v15 (
Jc K (.bool false) g1 n1) (
kLd g1 l1 (0+10) fun v18=>
Qb .int .geq v18 (.int .i64 8) fun v19=>
Qa v19 (
Jc K (.bool false) g1 n1) (
kLd g1 l1 (0+10) fun v23=>
Qb .int .geq v23 (.int .i64 0) fun v24=>
Qa v24 (
kLd g1 l1 (0+11) fun v27=>
Qb .int .neq v27 (.int .u8 0) fun v28=>
Qa v28 (
Jc K (.bool false) g1 n1) (
kLd g1 l1 (0+0) fun v33=>
kUn .not v33 fun v34=>
Qa v34 (
kLd g1 l1 (0+1) fun v37=>
Qa v37 (
Jc K (.bool false) g1 n1) (
Jc K (.bool false) g1 n1)) (
kLd g1 l1 (0+14) fun v55=>
kLd g1 l1 (0+11) fun v57=>
kLd g1 l1 (0+10) fun v59=>
C Xq [v59] g1 n1 fun v60 g2 n60=>
(Zd (ptr l1 (0+14)) fun l _=>g2 l=g1 l)∧(Zd (ptr l1 (0+11)) fun l _=>g2 l=g1 l)∧Qb .int .or v57 v60 fun v61=>
Qb .int .andNot v55 v61 fun v62=>
Qb .int .neq v62 (.int .u8 0) fun v63=>
Qa v63 (
Jc K (.bool false) g2 n60) (
kLd g2 l1 (0+12) fun v65=>
Qb .int .eql v65 (.int .i64 0) fun v67=>
Qa v67 (
kLd g2 l1 (0+13) fun v69=>
Qb .int .eql v69 (.int .i64 0) fun v70=>
Qa v70 (
kLd g2 l1 (0+14) fun v73=>
Qb .int .eql v73 (.int .u8 0) fun v74=>
Jc K v74 g2 n60) (
Jc K (.bool false) g2 n60)) (
Qb .int .eql v65 (.int .i64 1) fun v77=>
Qa v77 (
JF C K (puts (Qq [a0]) [(1,ptr l1 0),(2,.bool false),(4,(ptr l1 (0+10))),(5,v5),(6,v6),(7,.bool true),(8,undef),(9,undef),(10,undef),(11,.bool true),(3,.bool true),(13,(ptr l1 (0+10))),(14,v14),(15,v15),(16,.bool false),(17,(ptr l1 (0+10))),(18,v18),(19,v19),(20,v19),(21,.bool false),(22,(ptr l1 (0+10))),(23,v23),(24,v24),(25,.bool true),(26,(ptr l1 (0+11))),(27,v27),(28,v28),(29,v28),(30,v28),(12,v28),(32,(ptr l1 (0+0))),(33,v33),(34,v34),(35,.bool false),(36,undef),(37,undef),(38,undef),(39,undef),(40,undef),(41,undef),(42,undef),(43,undef),(44,undef),(45,undef),(46,undef),(47,undef),(48,undef),(49,undef),(50,undef),(51,undef),(52,.bool false),(31,.bool false),(54,(ptr l1 (0+14))),(55,v55),(56,(ptr l1 (0+11))),(57,v57),(58,(ptr l1 (0+10))),(59,v59),(60,v60),(61,v61),(62,v62),(63,v63),(53,v63),(64,(ptr l1 (0+12))),(65,v65),(67,v67),(66,v67),(77,v77),(76,v77)]) g2 n60) (
Qb .int .eql v65 (.int .i64 2) fun v78=>
JF C K (puts (Qq [a0]) [(1,ptr l1 0),(2,.bool false),(4,(ptr l1 (0+10))),(5,v5),(6,v6),(7,.bool true),(8,undef),(9,undef),(10,undef),(11,.bool true),(3,.bool true),(13,(ptr l1 (0+10))),(14,v14),(15,v15),(16,.bool false),(17,(ptr l1 (0+10))),(18,v18),(19,v19),(20,v19),(21,.bool false),(22,(ptr l1 (0+10))),(23,v23),(24,v24),(25,.bool true),(26,(ptr l1 (0+11))),(27,v27),(28,v28),(29,v28),(30,v28),(12,v28),(32,(ptr l1 (0+0))),(33,v33),(34,v34),(35,.bool false),(36,undef),(37,undef),(38,undef),(39,undef),(40,undef),(41,undef),(42,undef),(43,undef),(44,undef),(45,undef),(46,undef),(47,undef),(48,undef),(49,undef),(50,undef),(51,undef),(52,.bool false),(31,.bool false),(54,(ptr l1 (0+14))),(55,v55),(56,(ptr l1 (0+11))),(57,v57),(58,(ptr l1 (0+10))),(59,v59),(60,v60),(61,v61),(62,v62),(63,v63),(53,v63),(64,(ptr l1 (0+12))),(65,v65),(67,v67),(66,v67),(77,v77),(76,v77),(78,v78),(76,v78)]) g2 n60)))))) (
kLd g1 l1 (0+0) fun v33=>
kUn .not v33 fun v34=>
Qa v34 (
kLd g1 l1 (0+1) fun v37=>
Qa v37 (
Jc K (.bool false) g1 n1) (
Jc K (.bool false) g1 n1)) (
kLd g1 l1 (0+14) fun v55=>
kLd g1 l1 (0+11) fun v57=>
kLd g1 l1 (0+10) fun v59=>
C Xq [v59] g1 n1 fun v60 g5 n60=>
(Zd (ptr l1 (0+14)) fun l _=>g5 l=g1 l)∧(Zd (ptr l1 (0+11)) fun l _=>g5 l=g1 l)∧Qb .int .or v57 v60 fun v61=>
Qb .int .andNot v55 v61 fun v62=>
Qb .int .neq v62 (.int .u8 0) fun v63=>
Qa v63 (
Jc K (.bool false) g5 n60) (
kLd g5 l1 (0+12) fun v65=>
Qb .int .eql v65 (.int .i64 0) fun v67=>
Qa v67 (
kLd g5 l1 (0+13) fun v69=>
Qb .int .eql v69 (.int .i64 0) fun v70=>
Qa v70 (
kLd g5 l1 (0+14) fun v73=>
Qb .int .eql v73 (.int .u8 0) fun v74=>
Jc K v74 g5 n60) (
Jc K (.bool false) g5 n60)) (
Qb .int .eql v65 (.int .i64 1) fun v77=>
Qa v77 (
JF C K (puts (Qq [a0]) [(1,ptr l1 0),(2,.bool false),(4,(ptr l1 (0+10))),(5,v5),(6,v6),(7,.bool true),(8,undef),(9,undef),(10,undef),(11,.bool true),(3,.bool true),(13,(ptr l1 (0+10))),(14,v14),(15,v15),(16,.bool false),(17,(ptr l1 (0+10))),(18,v18),(19,v19),(20,v19),(21,.bool false),(22,(ptr l1 (0+10))),(23,v23),(24,v24),(25,.bool false),(26,undef),(27,undef),(28,undef),(29,.bool false),(30,.bool false),(12,.bool false),(32,(ptr l1 (0+0))),(33,v33),(34,v34),(35,.bool false),(36,undef),(37,undef),(38,undef),(39,undef),(40,undef),(41,undef),(42,undef),(43,undef),(44,undef),(45,undef),(46,undef),(47,undef),(48,undef),(49,undef),(50,undef),(51,undef),(52,.bool false),(31,.bool false),(54,(ptr l1 (0+14))),(55,v55),(56,(ptr l1 (0+11))),(57,v57),(58,(ptr l1 (0+10))),(59,v59),(60,v60),(61,v61),(62,v62),(63,v63),(53,v63),(64,(ptr l1 (0+12))),(65,v65),(67,v67),(66,v67),(77,v77),(76,v77)]) g5 n60) (
Qb .int .eql v65 (.int .i64 2) fun v78=>
JF C K (puts (Qq [a0]) [(1,ptr l1 0),(2,.bool false),(4,(ptr l1 (0+10))),(5,v5),(6,v6),(7,.bool true),(8,undef),(9,undef),(10,undef),(11,.bool true),(3,.bool true),(13,(ptr l1 (0+10))),(14,v14),(15,v15),(16,.bool false),(17,(ptr l1 (0+10))),(18,v18),(19,v19),(20,v19),(21,.bool false),(22,(ptr l1 (0+10))),(23,v23),(24,v24),(25,.bool false),(26,undef),(27,undef),(28,undef),(29,.bool false),(30,.bool false),(12,.bool false),(32,(ptr l1 (0+0))),(33,v33),(34,v34),(35,.bool false),(36,undef),(37,undef),(38,undef),(39,undef),(40,undef),(41,undef),(42,undef),(43,undef),(44,undef),(45,undef),(46,undef),(47,undef),(48,undef),(49,undef),(50,undef),(51,undef),(52,.bool false),(31,.bool false),(54,(ptr l1 (0+14))),(55,v55),(56,(ptr l1 (0+11))),(57,v57),(58,(ptr l1 (0+10))),(59,v59),(60,v60),(61,v61),(62,v62),(63,v63),(53,v63),(64,(ptr l1 (0+12))),(65,v65),(67,v67),(66,v67),(77,v77),(76,v77),(78,v78),(76,v78)]) g5 n60)))))))) (
kLd g1 l1 (0+11) fun v9=>
Qb .int .neq v9 (.int .u8 0) fun v10=>
kLd g1 l1 (0+10) fun v14=>
Qb .int .lss v14 (.int .i64 (-1)) fun v15=>
Qa v15 (
Jc K (.bool false) g1 n1) (
kLd g1 l1 (0+10) fun v18=>
Qb .int .geq v18 (.int .i64 8) fun v19=>
Qa v19 (
Jc K (.bool false) g1 n1) (
kLd g1 l1 (0+10) fun v23=>
Qb .int .geq v23 (.int .i64 0) fun v24=>
Qa v24 (
kLd g1 l1 (0+11) fun v27=>
Qb .int .neq v27 (.int .u8 0) fun v28=>
Qa v28 (
Jc K (.bool false) g1 n1) (
kLd g1 l1 (0+0) fun v33=>
kUn .not v33 fun v34=>
Qa v34 (
kLd g1 l1 (0+1) fun v37=>
Qa v37 (
Jc K (.bool false) g1 n1) (
Qa v10 (
Jc K (.bool false) g1 n1) (
kLd g1 l1 (0+12) fun v43=>
Qb .int .neq v43 (.int .i64 0) fun v44=>
Qa v44 (
Jc K (.bool false) g1 n1) (
Zo g1 l1 (0+2) 8 fun c48=>
Qi [.int .u64 0,.int .u64 0,.int .u64 0,.int .u64 0,.int .u64 0,.int .u64 0,.int .u64 0,.int .u64 0] [] fun c49=>
Qb (.agg [.i,.i,.i,.i,.i,.i,.i,.i]) .neq (.agg c48.toArray) (.agg c49.toArray) fun v50=>
Qa v50 (
Jc K (.bool false) g1 n1) (
kLd g1 l1 (0+14) fun v55=>
kLd g1 l1 (0+11) fun v57=>
kLd g1 l1 (0+10) fun v59=>
C Xq [v59] g1 n1 fun v60 g6 n60=>
(Zd (ptr l1 (0+14)) fun l _=>g6 l=g1 l)∧(Zd (ptr l1 (0+11)) fun l _=>g6 l=g1 l)∧Qb .int .or v57 v60 fun v61=>
Qb .int .andNot v55 v61 fun v62=>
Qb .int .neq v62 (.int .u8 0) fun v63=>
Qa v63 (
Jc K (.bool false) g6 n60) (
kLd g6 l1 (0+12) fun v65=>
Qb .int .eql v65 (.int .i64 0) fun v67=>
Qa v67 (
kLd g6 l1 (0+13) fun v69=>
Qb .int .eql v69 (.int .i64 0) fun v70=>
Qa v70 (
kLd g6 l1 (0+14) fun v73=>
Qb .int .eql v73 (.int .u8 0) fun v74=>
Jc K v74 g6 n60) (
Jc K (.bool false) g6 n60)) (
Qb .int .eql v65 (.int .i64 1) fun v77=>
Qa v77 (
JF C K (puts (Qq [a0]) [(1,ptr l1 0),(2,.bool false),(4,(ptr l1 (0+10))),(5,v5),(6,v6),(7,.bool false),(8,(ptr l1 (0+11))),(9,v9),(10,v10),(11,v10),(3,v10),(13,(ptr l1 (0+10))),(14,v14),(15,v15),(16,.bool false),(17,(ptr l1 (0+10))),(18,v18),(19,v19),(20,v19),(21,.bool false),(22,(ptr l1 (0+10))),(23,v23),(24,v24),(25,.bool true),(26,(ptr l1 (0+11))),(27,v27),(28,v28),(29,v28),(30,v28),(12,v28),(32,(ptr l1 (0+0))),(33,v33),(34,v34),(35,.bool true),(36,(ptr l1 (0+1))),(37,v37),(38,.bool false),(39,v10),(40,v10),(41,.bool false),(42,(ptr l1 (0+12))),(43,v43),(44,v44),(45,v44),(46,.bool false),(47,(ptr l1 (0+2))),(48,.agg c48.toArray),(49,.agg c49.toArray),(50,v50),(51,v50),(52,v50),(31,v50),(54,(ptr l1 (0+14))),(55,v55),(56,(ptr l1 (0+11))),(57,v57),(58,(ptr l1 (0+10))),(59,v59),(60,v60),(61,v61),(62,v62),(63,v63),(53,v63),(64,(ptr l1 (0+12))),(65,v65),(67,v67),(66,v67),(77,v77),(76,v77)]) g6 n60) (
Qb .int .eql v65 (.int .i64 2) fun v78=>
JF C K (puts (Qq [a0]) [(1,ptr l1 0),(2,.bool false),(4,(ptr l1 (0+10))),(5,v5),(6,v6),(7,.bool false),(8,(ptr l1 (0+11))),(9,v9),(10,v10),(11,v10),(3,v10),(13,(ptr l1 (0+10))),(14,v14),(15,v15),(16,.bool false),(17,(ptr l1 (0+10))),(18,v18),(19,v19),(20,v19),(21,.bool false),(22,(ptr l1 (0+10))),(23,v23),(24,v24),(25,.bool true),(26,(ptr l1 (0+11))),(27,v27),(28,v28),(29,v28),(30,v28),(12,v28),(32,(ptr l1 (0+0))),(33,v33),(34,v34),(35,.bool true),(36,(ptr l1 (0+1))),(37,v37),(38,.bool false),(39,v10),(40,v10),(41,.bool false),(42,(ptr l1 (0+12))),(43,v43),(44,v44),(45,v44),(46,.bool false),(47,(ptr l1 (0+2))),(48,.agg c48.toArray),(49,.agg c49.toArray),(50,v50),(51,v50),(52,v50),(31,v50),(54,(ptr l1 (0+14))),(55,v55),(56,(ptr l1 (0+11))),(57,v57),(58,(ptr l1 (0+10))),(59,v59),(60,v60),(61,v61),(62,v62),(63,v63),(53,v63),(64,(ptr l1 (0+12))),(65,v65),(67,v67),(66,v67),(77,v77),(76,v77),(78,v78),(76,v78)]) g6 n60)))))))) (
kLd g1 l1 (0+14) fun v55=>
kLd g1 l1 (0+11) fun v57=>
kLd g1 l1 (0+10) fun v59=>
C Xq [v59] g1 n1 fun v60 g7 n60=>
(Zd (ptr l1 (0+14)) fun l _=>g7 l=g1 l)∧(Zd (ptr l1 (0+11)) fun l _=>g7 l=g1 l)∧Qb .int .or v57 v60 fun v61=>
Qb .int .andNot v55 v61 fun v62=>
Qb .int .neq v62 (.int .u8 0) fun v63=>
Qa v63 (
Jc K (.bool false) g7 n60) (
kLd g7 l1 (0+12) fun v65=>
Qb .int .eql v65 (.int .i64 0) fun v67=>
Qa v67 (
kLd g7 l1 (0+13) fun v69=>
Qb .int .eql v69 (.int .i64 0) fun v70=>
Qa v70 (
kLd g7 l1 (0+14) fun v73=>
Qb .int .eql v73 (.int .u8 0) fun v74=>
Jc K v74 g7 n60) (
Jc K (.bool false) g7 n60)) (
Qb .int .eql v65 (.int .i64 1) fun v77=>
Qa v77 (
JF C K (puts (Qq [a0]) [(1,ptr l1 0),(2,.bool false),(4,(ptr l1 (0+10))),(5,v5),(6,v6),(7,.bool false),(8,(ptr l1 (0+11))),(9,v9),(10,v10),(11,v10),(3,v10),(13,(ptr l1 (0+10))),(14,v14),(15,v15),(16,.bool false),(17,(ptr l1 (0+10))),(18,v18),(19,v19),(20,v19),(21,.bool false),(22,(ptr l1 (0+10))),(23,v23),(24,v24),(25,.bool true),(26,(ptr l1 (0+11))),(27,v27),(28,v28),(29,v28),(30,v28),(12,v28),(32,(ptr l1 (0+0))),(33,v33),(34,v34),(35,.bool false),(36,undef),(37,undef),(38,undef),(39,undef),(40,undef),(41,undef),(42,undef),(43,undef),(44,undef),(45,undef),(46,undef),(47,undef),(48,undef),(49,undef),(50,undef),(51,undef),(52,.bool false),(31,.bool false),(54,(ptr l1 (0+14))),(55,v55),(56,(ptr l1 (0+11))),(57,v57),(58,(ptr l1 (0+10))),(59,v59),(60,v60),(61,v61),(62,v62),(63,v63),(53,v63),(64,(ptr l1 (0+12))),(65,v65),(67,v67),(66,v67),(77,v77),(76,v77)]) g7 n60) (
Qb .int .eql v65 (.int .i64 2) fun v78=>
JF C K (puts (Qq [a0]) [(1,ptr l1 0),(2,.bool false),(4,(ptr l1 (0+10))),(5,v5),(6,v6),(7,.bool false),(8,(ptr l1 (0+11))),(9,v9),(10,v10),(11,v10),(3,v10),(13,(ptr l1 (0+10))),(14,v14),(15,v15),(16,.bool false),(17,(ptr l1 (0+10))),(18,v18),(19,v19),(20,v19),(21,.bool false),(22,(ptr l1 (0+10))),(23,v23),(24,v24),(25,.bool true),(26,(ptr l1 (0+11))),(27,v27),(28,v28),(29,v28),(30,v28),(12,v28),(32,(ptr l1 (0+0))),(33,v33),(34,v34),(35,.bool false),(36,undef),(37,undef),(38,undef),(39,undef),(40,undef),(41,undef),(42,undef),(43,undef),(44,undef),(45,undef),(46,undef),(47,undef),(48,undef),(49,undef),(50,undef),(51,undef),(52,.bool false),(31,.bool false),(54,(ptr l1 (0+14))),(55,v55),(56,(ptr l1 (0+11))),(57,v57),(58,(ptr l1 (0+10))),(59,v59),(60,v60),(61,v61),(62,v62),(63,v63),(53,v63),(64,(ptr l1 (0+12))),(65,v65),(67,v67),(66,v67),(77,v77),(76,v77),(78,v78),(76,v78)]) g7 n60)))))) (
kLd g1 l1 (0+0) fun v33=>
kUn .not v33 fun v34=>
Qa v34 (
kLd g1 l1 (0+1) fun v37=>
Qa v37 (
Jc K (.bool false) g1 n1) (
Qa v10 (
Jc K (.bool false) g1 n1) (
kLd g1 l1 (0+12) fun v43=>
Qb .int .neq v43 (.int .i64 0) fun v44=>
Qa v44 (
Jc K (.bool false) g1 n1) (
Zo g1 l1 (0+2) 8 fun c48=>
Qi [.int .u64 0,.int .u64 0,.int .u64 0,.int .u64 0,.int .u64 0,.int .u64 0,.int .u64 0,.int .u64 0] [] fun c49=>
Qb (.agg [.i,.i,.i,.i,.i,.i,.i,.i]) .neq (.agg c48.toArray) (.agg c49.toArray) fun v50=>
Qa v50 (
Jc K (.bool false) g1 n1) (
kLd g1 l1 (0+14) fun v55=>
kLd g1 l1 (0+11) fun v57=>
kLd g1 l1 (0+10) fun v59=>
C Xq [v59] g1 n1 fun v60 g8 n60=>
(Zd (ptr l1 (0+14)) fun l _=>g8 l=g1 l)∧(Zd (ptr l1 (0+11)) fun l _=>g8 l=g1 l)∧Qb .int .or v57 v60 fun v61=>
Qb .int .andNot v55 v61 fun v62=>
Qb .int .neq v62 (.int .u8 0) fun v63=>
Qa v63 (
Jc K (.bool false) g8 n60) (
kLd g8 l1 (0+12) fun v65=>
Qb .int .eql v65 (.int .i64 0) fun v67=>
Qa v67 (
kLd g8 l1 (0+13) fun v69=>
Qb .int .eql v69 (.int .i64 0) fun v70=>
Qa v70 (
kLd g8 l1 (0+14) fun v73=>
Qb .int .eql v73 (.int .u8 0) fun v74=>
Jc K v74 g8 n60) (
Jc K (.bool false) g8 n60)) (
Qb .int .eql v65 (.int .i64 1) fun v77=>
Qa v77 (
JF C K (puts (Qq [a0]) [(1,ptr l1 0),(2,.bool false),(4,(ptr l1 (0+10))),(5,v5),(6,v6),(7,.bool false),(8,(ptr l1 (0+11))),(9,v9),(10,v10),(11,v10),(3,v10),(13,(ptr l1 (0+10))),(14,v14),(15,v15),(16,.bool false),(17,(ptr l1 (0+10))),(18,v18),(19,v19),(20,v19),(21,.bool false),(22,(ptr l1 (0+10))),(23,v23),(24,v24),(25,.bool false),(26,undef),(27,undef),(28,undef),(29,.bool false),(30,.bool false),(12,.bool false),(32,(ptr l1 (0+0))),(33,v33),(34,v34),(35,.bool true),(36,(ptr l1 (0+1))),(37,v37),(38,.bool false),(39,v10),(40,v10),(41,.bool false),(42,(ptr l1 (0+12))),(43,v43),(44,v44),(45,v44),(46,.bool false),(47,(ptr l1 (0+2))),(48,.agg c48.toArray),(49,.agg c49.toArray),(50,v50),(51,v50),(52,v50),(31,v50),(54,(ptr l1 (0+14))),(55,v55),(56,(ptr l1 (0+11))),(57,v57),(58,(ptr l1 (0+10))),(59,v59),(60,v60),(61,v61),(62,v62),(63,v63),(53,v63),(64,(ptr l1 (0+12))),(65,v65),(67,v67),(66,v67),(77,v77),(76,v77)]) g8 n60) (
Qb .int .eql v65 (.int .i64 2) fun v78=>
JF C K (puts (Qq [a0]) [(1,ptr l1 0),(2,.bool false),(4,(ptr l1 (0+10))),(5,v5),(6,v6),(7,.bool false),(8,(ptr l1 (0+11))),(9,v9),(10,v10),(11,v10),(3,v10),(13,(ptr l1 (0+10))),(14,v14),(15,v15),(16,.bool false),(17,(ptr l1 (0+10))),(18,v18),(19,v19),(20,v19),(21,.bool false),(22,(ptr l1 (0+10))),(23,v23),(24,v24),(25,.bool false),(26,undef),(27,undef),(28,undef),(29,.bool false),(30,.bool false),(12,.bool false),(32,(ptr l1 (0+0))),(33,v33),(34,v34),(35,.bool true),(36,(ptr l1 (0+1))),(37,v37),(38,.bool false),(39,v10),(40,v10),(41,.bool false),(42,(ptr l1 (0+12))),(43,v43),(44,v44),(45,v44),(46,.bool false),(47,(ptr l1 (0+2))),(48,.agg c48.toArray),(49,.agg c49.toArray),(50,v50),(51,v50),(52,v50),(31,v50),(54,(ptr l1 (0+14))),(55,v55),(56,(ptr l1 (0+11))),(57,v57),(58,(ptr l1 (0+10))),(59,v59),(60,v60),(61,v61),(62,v62),(63,v63),(53,v63),(64,(ptr l1 (0+12))),(65,v65),(67,v67),(66,v67),(77,v77),(76,v77),(78,v78),(76,v78)]) g8 n60)))))))) (
kLd g1 l1 (0+14) fun v55=>
kLd g1 l1 (0+11) fun v57=>
kLd g1 l1 (0+10) fun v59=>
C Xq [v59] g1 n1 fun v60 g9 n60=>
(Zd (ptr l1 (0+14)) fun l _=>g9 l=g1 l)∧(Zd (ptr l1 (0+11)) fun l _=>g9 l=g1 l)∧Qb .int .or v57 v60 fun v61=>
Qb .int .andNot v55 v61 fun v62=>
Qb .int .neq v62 (.int .u8 0) fun v63=>
Qa v63 (
Jc K (.bool false) g9 n60) (
kLd g9 l1 (0+12) fun v65=>
Qb .int .eql v65 (.int .i64 0) fun v67=>
Qa v67 (
kLd g9 l1 (0+13) fun v69=>
Qb .int .eql v69 (.int .i64 0) fun v70=>
Qa v70 (
kLd g9 l1 (0+14) fun v73=>
Qb .int .eql v73 (.int .u8 0) fun v74=>
Jc K v74 g9 n60) (
Jc K (.bool false) g9 n60)) (
Qb .int .eql v65 (.int .i64 1) fun v77=>
Qa v77 (
JF C K (puts (Qq [a0]) [(1,ptr l1 0),(2,.bool false),(4,(ptr l1 (0+10))),(5,v5),(6,v6),(7,.bool false),(8,(ptr l1 (0+11))),(9,v9),(10,v10),(11,v10),(3,v10),(13,(ptr l1 (0+10))),(14,v14),(15,v15),(16,.bool false),(17,(ptr l1 (0+10))),(18,v18),(19,v19),(20,v19),(21,.bool false),(22,(ptr l1 (0+10))),(23,v23),(24,v24),(25,.bool false),(26,undef),(27,undef),(28,undef),(29,.bool false),(30,.bool false),(12,.bool false),(32,(ptr l1 (0+0))),(33,v33),(34,v34),(35,.bool false),(36,undef),(37,undef),(38,undef),(39,undef),(40,undef),(41,undef),(42,undef),(43,undef),(44,undef),(45,undef),(46,undef),(47,undef),(48,undef),(49,undef),(50,undef),(51,undef),(52,.bool false),(31,.bool false),(54,(ptr l1 (0+14))),(55,v55),(56,(ptr l1 (0+11))),(57,v57),(58,(ptr l1 (0+10))),(59,v59),(60,v60),(61,v61),(62,v62),(63,v63),(53,v63),(64,(ptr l1 (0+12))),(65,v65),(67,v67),(66,v67),(77,v77),(76,v77)]) g9 n60) (
Qb .int .eql v65 (.int .i64 2) fun v78=>
JF C K (puts (Qq [a0]) [(1,ptr l1 0),(2,.bool false),(4,(ptr l1 (0+10))),(5,v5),(6,v6),(7,.bool false),(8,(ptr l1 (0+11))),(9,v9),(10,v10),(11,v10),(3,v10),(13,(ptr l1 (0+10))),(14,v14),(15,v15),(16,.bool false),(17,(ptr l1 (0+10))),(18,v18),(19,v19),(20,v19),(21,.bool false),(22,(ptr l1 (0+10))),(23,v23),(24,v24),(25,.bool false),(26,undef),(27,undef),(28,undef),(29,.bool false),(30,.bool false),(12,.bool false),(32,(ptr l1 (0+0))),(33,v33),(34,v34),(35,.bool false),(36,undef),(37,undef),(38,undef),(39,undef),(40,undef),(41,undef),(42,undef),(43,undef),(44,undef),(45,undef),(46,undef),(47,undef),(48,undef),(49,undef),(50,undef),(51,undef),(52,.bool false),(31,.bool false),(54,(ptr l1 (0+14))),(55,v55),(56,(ptr l1 (0+11))),(57,v57),(58,(ptr l1 (0+10))),(59,v59),(60,v60),(61,v61),(62,v62),(63,v63),(53,v63),(64,(ptr l1 (0+12))),(65,v65),(67,v67),(66,v67),(77,v77),(76,v77),(78,v78),(76,v78)]) g9 n60))))))))
theorem JdP (C:CT) (a0:Value) (g:G) (n:Nat) (K:Cont):Jd1 C a0 g n K=Zg Tryz.prog C XaF [a0] g n K:=by kernel_rfl
def JdX (C:CT) (a0:Value) (g:G) (n:Nat) (K:Cont):Prop:=
Qb .int .geq a0 (.int .i64 0) fun v4=>
Qa v4 (
Qb .int .lss a0 (.int .i64 8) fun v7=>
Jc K v7 g n) (
Jc K (.bool false) g n)
theorem JdW (C:CT) (a0:Value) (g:G) (n:Nat) (K:Cont):JdX C a0 g n K=Zg Tryz.prog C Qau [a0] g n K:=by kernel_rfl
def Qd1 (C:CT) (a0:Value) (g:G) (n:Nat) (K:Cont):Prop:=
Qb .int .geq a0 (.int .i64 1) fun v4=>
Qa v4 (
Qb .int .leq a0 (.int .i64 5) fun v7=>
Jc K v7 g n) (
Jc K (.bool false) g n)
theorem ZdU (C:CT) (a0:Value) (g:G) (n:Nat) (K:Cont):Qd1 C a0 g n K=Zg Tryz.prog C JbD [a0] g n K:=by kernel_rfl
def QdZ (C:CT) (g:G) (n:Nat) (K:Cont):Prop:=
Jw [.nilFunc,.nilFunc,.nilFunc,.nilFunc,.nilFunc,.nilFunc] .exact g n fun l0 g1 n0=>
Qi [.nilFunc,.nilFunc,.nilFunc,.nilFunc,.nilFunc,.nilFunc] [(1,none,(.func (.func Jaf) #[] #[])),(2,none,(.func (.func Zaf) #[] #[])),(3,none,(.func (.func Qap) #[] #[])),(4,none,(.func (.func J8) #[] #[])),(5,none,(.func (.func Zah) #[] #[]))] fun c1=>
Xn (.agg c1.toArray) fun cg2=>
cg2.length=6∧Qx g1 l0 0 cg2 fun g2=>
Zo g2 l0 0 6 fun r0=>
Jc K (.agg r0.toArray) g2 n0
theorem JdS (C:CT) (g:G) (n:Nat) (K:Cont):QdZ C g n K=Zg Tryz.prog C QbA [] g n K:=by kernel_rfl
def Zdn (C:CT) (a0:Value) (g:G) (n:Nat) (K:Cont):Prop:=
Qb .int .geq a0 (.int .i64 8) fun v4=>
Qa v4 (
Qb .int .leq a0 (.int .i64 14) fun v7=>
Jc K v7 g n) (
Jc K (.bool false) g n)
theorem Xdh (C:CT) (a0:Value) (g:G) (n:Nat) (K:Cont):Zdn C a0 g n K=Zg Tryz.prog C Zbj [a0] g n K:=by kernel_rfl
def XU (C:CT) (K:Cont) (t:Env) (g:G) (n:Nat):Prop:=
Qb .int .geq (t 5) (.int .i64 0) fun v18=>
Jc K v18 g n
def Za9 (C:CT) (a0 a1:Value) (g:G) (n:Nat) (K:Cont):Prop:=
C ZI [a0,a1] g n fun v8 g1 n8=>
Qb .int .geq v8 (.int .i64 0) fun v10=>
Qa v10 (
C Qu [a0,a1] g1 n8 fun v13 g2 n13=>
Qi [.int .i64 0,.int .i64 0,.int .u64 0,.int .u64 0,.int .u64 0,.int .u64 0,.int .u64 0,.int .u64 0,.int .u64 0,.int .u64 0,.int .i64 0] [] fun c15=>
Xc v13 v8 11 fun v16=>
Zd v16 fun lg3 og3=>
Xn (.agg c15.toArray) fun cg3=>
cg3.length=11∧Qx g2 lg3 og3 cg3 fun g3=>
XU C K (puts (Qq [a0,a1]) [(4,.bool false),(6,a0),(7,a1),(8,v8),(5,v8),(9,v8),(10,v10),(11,a0),(12,a1),(13,v13),(14,v8),(15,.agg c15.toArray),(16,v16)]) g3 n13) (
XU C K (puts (Qq [a0,a1]) [(4,.bool false),(6,a0),(7,a1),(8,v8),(5,v8),(9,v8),(10,v10)]) g1 n8)
theorem Jbz (C:CT) (a0 a1:Value) (g:G) (n:Nat) (K:Cont):Za9 C a0 a1 g n K=Zg Tryz.prog C Qai [a0,a1] g n K:=by kernel_rfl
def XR (C:CT) (K:Cont) (t:Env) (g:G) (n:Nat):Prop:=
Zd (t 7) fun l34 o34=>
Zo g l34 o34 12 fun c34=>
Qi (reps 1 [.int .i64 0,.int .i64 0,.bool false,.bool false,.int .u64 0,.int .u64 0,.int .u64 0,.int .u64 0,.int .u64 0,.int .u64 0,.int .u64 0,.int .u64 0]) [(0,some 12,.agg c34.toArray)] fun c35=>
Jw c35 .exact g n fun l35 g8 n35=>
Jc K (.slice (some ⟨l35,0,none⟩) 1 1) g8 n35
def Xan (C:CT) (K:Cont) (t:Env) (g:G) (n:Nat):Prop:=
Zd (t 4) fun l22 o22=>
kLd g l22 (o22+0) fun v23=>
Qb .int .eql v23 (.int .i64 3) fun v24=>
Qa v24 (
Zd (t 4) fun l30 o30=>
Zo g l30 (o30+2) 8 fun c31=>
Zd (t 7) fun l32 o32=>
kSt g l32 (o32+2) (.bool true) fun g6=>
(Zd (ptr l30 (o30+2)) fun l _=>g6 l=g l)∧Zd (t 7) fun l33 o33=>
Xn (.agg c31.toArray) fun cg7=>
cg7.length=8∧Qx g6 l33 (o33+4) cg7 fun g7=>
XR C K (puts t [(22,(ptr l22 (o22+0))),(23,v23),(24,v24),(25,.bool true),(26,undef),(27,undef),(28,undef),(29,.bool true),(30,(ptr l30 (o30+2))),(31,.agg c31.toArray),(32,(ptr l32 (o32+2))),(33,(ptr l33 (o33+4)))]) g7 n) (
Zd (t 4) fun l26 o26=>
kLd g l26 (o26+0) fun v27=>
Qb .int .eql v27 (.int .i64 9) fun v28=>
Qa v28 (
Zd (t 4) fun l30 o30=>
Zo g l30 (o30+2) 8 fun c31=>
Zd (t 7) fun l32 o32=>
kSt g l32 (o32+2) (.bool true) fun g9=>
(Zd (ptr l30 (o30+2)) fun l _=>g9 l=g l)∧Zd (t 7) fun l33 o33=>
Xn (.agg c31.toArray) fun cg10=>
cg10.length=8∧Qx g9 l33 (o33+4) cg10 fun g10=>
XR C K (puts t [(22,(ptr l22 (o22+0))),(23,v23),(24,v24),(25,.bool false),(26,(ptr l26 (o26+0))),(27,v27),(28,v28),(29,v28),(30,(ptr l30 (o30+2))),(31,.agg c31.toArray),(32,(ptr l32 (o32+2))),(33,(ptr l33 (o33+4)))]) g10 n) (
XR C K (puts t [(22,(ptr l22 (o22+0))),(23,v23),(24,v24),(25,.bool false),(26,(ptr l26 (o26+0))),(27,v27),(28,v28),(29,v28)]) g n))
def Xb5 (C:CT) (a0 a1 a2:Value) (g:G) (n:Nat) (K:Cont):Prop:=
Xn a0 fun c3=>
Jw c3 .exact g n fun l3 g1 n3=>
Xn a1 fun c4=>
Jw c4 .exact g1 n3 fun l4 g2 n4=>
kLd g2 l3 (0+1) fun v9=>
Qi [.int .i64 0,.int .i64 0,.bool false,.bool false,.int .u64 0,.int .u64 0,.int .u64 0,.int .u64 0,.int .u64 0,.int .u64 0,.int .u64 0,.int .u64 0] [(1,none,v9)] fun c10=>
Jw [.int .i64 0,.int .i64 0,.bool false,.bool false,.int .u64 0,.int .u64 0,.int .u64 0,.int .u64 0,.int .u64 0,.int .u64 0,.int .u64 0,.int .u64 0] .exact g2 n4 fun l7 g3 n7=>
Xn (.agg c10.toArray) fun cg4=>
cg4.length=12∧Qx g3 l7 0 cg4 fun g4=>
kLd g4 l3 (0+0) fun v12=>
Qb .int .eql v12 (.int .i64 12) fun v14=>
Qa v14 (
kSt g4 l7 (0+0) (.int .i64 6) fun g5=>
Xan C K (puts (Qq [a0,a1,a2]) [(3,ptr l3 0),(4,ptr l4 0),(6,.slice none 0 0),(8,(ptr l3 (0+1))),(9,v9),(10,.agg c10.toArray),(7,ptr l7 0),(11,(ptr l3 (0+0))),(12,v12),(14,v14),(13,v14),(15,(ptr l7 (0+0)))]) g5 n7) (
Qb .int .eql v12 (.int .i64 13) fun v17=>
Qa v17 (
Qb .int .eql a2 (.int .i64 1) fun v19=>
kSt g4 l7 (0+0) (.int .i64 7) fun g11=>
kSt g11 l7 (0+3) v19 fun g12=>
Xan C K (puts (Qq [a0,a1,a2]) [(3,ptr l3 0),(4,ptr l4 0),(6,.slice none 0 0),(8,(ptr l3 (0+1))),(9,v9),(10,.agg c10.toArray),(7,ptr l7 0),(11,(ptr l3 (0+0))),(12,v12),(14,v14),(13,v14),(17,v17),(16,v17),(18,a2),(19,v19),(20,(ptr l7 (0+0))),(21,(ptr l7 (0+3)))]) g12 n7) (
Jc K (.slice none 0 0) g4 n7))
theorem Jcx (C:CT) (a0 a1 a2:Value) (g:G) (n:Nat) (K:Cont):Xb5 C a0 a1 a2 g n K=Zg Tryz.prog C Jaq [a0,a1,a2] g n K:=by kernel_rfl
def Xcy (C:CT) (a0:Value) (g:G) (n:Nat) (K:Cont):Prop:=
Qb .int .eql a0 (.int .i64 6) fun v4=>
Qa v4 (
Jc K (.bool true) g n) (
Qb .int .eql a0 (.int .i64 7) fun v7=>
Jc K v7 g n)
theorem QcH (C:CT) (a0:Value) (g:G) (n:Nat) (K:Cont):Xcy C a0 g n K=Zg Tryz.prog C JaO [a0] g n K:=by kernel_rfl
def Xd9 (C:CT) (a0 a1:Value) (g:G) (n:Nat) (K:Cont):Prop:=
C Xq [a1] g n fun v7 g1 n7=>
Qb .int .and a0 v7 fun v8=>
Qb .int .neq v8 (.int .u8 0) fun v9=>
Jc K v9 g1 n7
theorem ZdI (C:CT) (a0 a1:Value) (g:G) (n:Nat) (K:Cont):Xd9 C a0 a1 g n K=Zg Tryz.prog C Za4 [a0,a1] g n K:=by kernel_rfl
def Qd3 (C:CT) (a0:Value) (g:G) (n:Nat) (K:Cont):Prop:=
Qb .int .lss a0 (.int .i64 0) fun v4=>
Qa v4 (
Jc K (.int .u8 0) g n) (
Qb .int .geq a0 (.int .i64 8) fun v7=>
Qa v7 (
Jc K (.int .u8 0) g n) (
Qb .int .shl (.int .u8 1) a0 fun v10=>
Jc K v10 g n))
theorem ZdV (C:CT) (a0:Value) (g:G) (n:Nat) (K:Cont):Qd3 C a0 g n K=Zg Tryz.prog C Xq [a0] g n K:=by kernel_rfl
def ZbJ (C:CT) (a0 a1:Value) (g:G) (n:Nat) (K:Cont):Prop:=
Xn a1 fun c3=>
Jw c3 .exact g n fun l3 g1 n3=>
kLd g1 l3 (0+2) fun v5=>
Qa v5 (
Zo g1 l3 (0+4) 8 fun c9=>
Zp a0 fun v10=>
Zd v10 fun l11 o11=>
Xn (.agg c9.toArray) fun cg2=>
cg2.length=8∧Qx g1 l11 (o11+0+2) cg2 fun g2=>
Zp a0 fun v13=>
Zd v13 fun l14 o14=>
kSt g2 l14 (o14+0+1) (.bool true) fun g3=>
Jc K (.tuple #[]) g3 n3) (
Jc K (.tuple #[]) g1 n3)
theorem Qcf (C:CT) (a0 a1:Value) (g:G) (n:Nat) (K:Cont):ZbJ C a0 a1 g n K=Zg Tryz.prog C Qaf [a0,a1] g n K:=by kernel_rfl
def XbU (C:CT) (a0:Value) (g:G) (n:Nat) (K:Cont):Prop:=
Zp a0 fun v5=>
Zd v5 fun l6 o6=>
kSt g l6 (o6+0+12) (.int .i64 0) fun g1=>
Zp a0 fun v8=>
Zd v8 fun l9 o9=>
kSt g1 l9 (o9+0+13) (.int .i64 0) fun g2=>
Zp a0 fun v11=>
Zd v11 fun l12 o12=>
kSt g2 l12 (o12+0+14) (.int .u8 0) fun g3=>
Jc K (.tuple #[]) g3 n
theorem Jcb (C:CT) (a0:Value) (g:G) (n:Nat) (K:Cont):XbU C a0 g n K=Zg Tryz.prog C QW [a0] g n K:=by kernel_rfl
def XbO (C:CT) (a0 a1:Value) (g:G) (n:Nat) (K:Cont):Prop:=
Zp a0 fun v5=>
Zd v5 fun l6 o6=>
kLd g l6 (o6+0+11) fun v8=>
C Xq [a1] g n fun v10 g1 n10=>
(Zd (ptr l6 (o6+0+11)) fun l _=>g1 l=g l)∧Qb .int .or v8 v10 fun v11=>
Zp a0 fun v12=>
Zd v12 fun l13 o13=>
kSt g1 l13 (o13+0+11) v11 fun g2=>
C QF [a0,a1,.int .i64 8] g2 n10 fun v17 g3 n17=>
Jc K (.tuple #[]) g3 n17
theorem Zcb (C:CT) (a0 a1:Value) (g:G) (n:Nat) (K:Cont):XbO C a0 a1 g n K=Zg Tryz.prog C JV [a0,a1] g n K:=by kernel_rfl
def Xb8 (C:CT) (a0 a1 a2:Value) (g:G) (n:Nat) (K:Cont):Prop:=
Zp a0 fun v9=>
Zd v9 fun l10 o10=>
kSt g l10 (o10+0+10) a1 fun g1=>
Zp a0 fun v12=>
Zd v12 fun l13 o13=>
kSt g1 l13 (o13+0+11) (.int .u8 0) fun g2=>
C QF [a0,a1,a2] g2 n fun v18 g3 n18=>
Jc K (.tuple #[]) g3 n18
theorem Zcu (C:CT) (a0 a1 a2:Value) (g:G) (n:Nat) (K:Cont):Xb8 C a0 a1 a2 g n K=Zg Tryz.prog C JQ [a0,a1,a2] g n K:=by kernel_rfl
def Zco (C:CT) (a0 a1:Value) (g:G) (n:Nat) (K:Cont):Prop:=
Qb .int .neq a0 (.int .i64 1) fun v7=>
Qa v7 (
Qb .int .neq a0 (.int .i64 2) fun v10=>
Qa v10 (
Qb .int .neq a0 (.int .i64 4) fun v14=>
Qa v14 (
Qb .int .neq a0 (.int .i64 8) fun v18=>
Qa v18 (
Jc K (.tuple #[.pointer none,.int .i64 1]) g n) (
Qb .int .lss a1 (.int .i64 1) fun v22=>
Qa v22 (
Jc K (.tuple #[.pointer none,.int .i64 1]) g n) (
Qb .int .gtr a1 (.int .i64 8) fun v26=>
Qa v26 (
Jc K (.tuple #[.pointer none,.int .i64 1]) g n) (
Qb .int .mul a0 a1 fun v32=>
QbD v32 v32 [.int .i64 0,.int .i64 0,.int .u64 0,.int .u64 0,.int .u64 0,.int .u64 0,.int .u64 0,.int .u64 0,.int .u64 0,.int .u64 0,.int .i64 0] 88 g n fun v33 g1 n33=>
Qi [.int .i64 0,.int .i64 0,.slice none 0 0,.int .i64 0] [(0,none,a0),(1,none,a1),(2,none,v33)] fun c34=>
Xn (.agg c34.toArray) fun c35=>
Jw c35 .exact g1 n33 fun l35 g2 n35=>
Jc K (.tuple #[ptr l35 0,.int .i64 0]) g2 n35)))) (
Qb .int .lss a1 (.int .i64 1) fun v22=>
Qa v22 (
Jc K (.tuple #[.pointer none,.int .i64 1]) g n) (
Qb .int .gtr a1 (.int .i64 8) fun v26=>
Qa v26 (
Jc K (.tuple #[.pointer none,.int .i64 1]) g n) (
Qb .int .mul a0 a1 fun v32=>
QbD v32 v32 [.int .i64 0,.int .i64 0,.int .u64 0,.int .u64 0,.int .u64 0,.int .u64 0,.int .u64 0,.int .u64 0,.int .u64 0,.int .u64 0,.int .i64 0] 88 g n fun v33 g3 n33=>
Qi [.int .i64 0,.int .i64 0,.slice none 0 0,.int .i64 0] [(0,none,a0),(1,none,a1),(2,none,v33)] fun c34=>
Xn (.agg c34.toArray) fun c35=>
Jw c35 .exact g3 n33 fun l35 g4 n35=>
Jc K (.tuple #[ptr l35 0,.int .i64 0]) g4 n35)))) (
Qb .int .lss a1 (.int .i64 1) fun v22=>
Qa v22 (
Jc K (.tuple #[.pointer none,.int .i64 1]) g n) (
Qb .int .gtr a1 (.int .i64 8) fun v26=>
Qa v26 (
Jc K (.tuple #[.pointer none,.int .i64 1]) g n) (
Qb .int .mul a0 a1 fun v32=>
QbD v32 v32 [.int .i64 0,.int .i64 0,.int .u64 0,.int .u64 0,.int .u64 0,.int .u64 0,.int .u64 0,.int .u64 0,.int .u64 0,.int .u64 0,.int .i64 0] 88 g n fun v33 g5 n33=>
Qi [.int .i64 0,.int .i64 0,.slice none 0 0,.int .i64 0] [(0,none,a0),(1,none,a1),(2,none,v33)] fun c34=>
Xn (.agg c34.toArray) fun c35=>
Jw c35 .exact g5 n33 fun l35 g6 n35=>
Jc K (.tuple #[ptr l35 0,.int .i64 0]) g6 n35)))) (
Qb .int .lss a1 (.int .i64 1) fun v22=>
Qa v22 (
Jc K (.tuple #[.pointer none,.int .i64 1]) g n) (
Qb .int .gtr a1 (.int .i64 8) fun v26=>
Qa v26 (
Jc K (.tuple #[.pointer none,.int .i64 1]) g n) (
Qb .int .mul a0 a1 fun v32=>
QbD v32 v32 [.int .i64 0,.int .i64 0,.int .u64 0,.int .u64 0,.int .u64 0,.int .u64 0,.int .u64 0,.int .u64 0,.int .u64 0,.int .u64 0,.int .i64 0] 88 g n fun v33 g7 n33=>
Qi [.int .i64 0,.int .i64 0,.slice none 0 0,.int .i64 0] [(0,none,a0),(1,none,a1),(2,none,v33)] fun c34=>
Xn (.agg c34.toArray) fun c35=>
Jw c35 .exact g7 n33 fun l35 g8 n35=>
Jc K (.tuple #[ptr l35 0,.int .i64 0]) g8 n35)))
theorem Xdm (C:CT) (a0 a1:Value) (g:G) (n:Nat) (K:Cont):Zco C a0 a1 g n K=Zg Tryz.prog C Jbc [a0,a1] g n K:=by kernel_rfl
def Qa9 (C:CT) (a0 a1:Value) (g:G) (n:Nat) (K:Cont):Prop:=
Jw [.int .i64 0,.int .i64 0,.int .u64 0,.int .u64 0,.int .u64 0,.int .u64 0,.int .u64 0,.int .u64 0,.int .u64 0,.int .u64 0,.int .i64 0] .exact g n fun l4 g1 n4=>
C ZI [a0,a1] g1 n4 fun v9 g2 n9=>
Qb .int .lss v9 (.int .i64 0) fun v11=>
Qa v11 (
Qi [.int .i64 0,.int .i64 0,.int .u64 0,.int .u64 0,.int .u64 0,.int .u64 0,.int .u64 0,.int .u64 0,.int .u64 0,.int .u64 0,.int .i64 0] [] fun c12=>
Xn (.agg c12.toArray) fun cg3=>
cg3.length=11∧Qx g2 l4 0 cg3 fun g3=>
Zo g3 l4 0 11 fun r0=>
Jc K (.tuple #[.agg r0.toArray,.bool false]) g3 n9) (
C Qu [a0,a1] g2 n9 fun v15 g4 n15=>
Xc v15 v9 11 fun v17=>
Zd v17 fun l18 o18=>
Zo g4 l18 o18 11 fun c18=>
Xn (.agg c18.toArray) fun cg5=>
cg5.length=11∧Qx g4 l4 0 cg5 fun g5=>
Zo g5 l4 0 11 fun r0=>
Jc K (.tuple #[.agg r0.toArray,.bool true]) g5 n15)
theorem XbF (C:CT) (a0 a1:Value) (g:G) (n:Nat) (K:Cont):Qa9 C a0 a1 g n K=Zg Tryz.prog C Zai [a0,a1] g n K:=by kernel_rfl
def Qbw (C:CT) (a0 a1:Value) (g:G) (n:Nat) (K:Cont):Prop:=
isCell a1=true∧Jw [a1] .exact g n fun l3 g1 n3=>
Qb .ptr .eql a0 (.pointer none) fun v6=>
Qa v6 (
Jc K (.int .i64 (-1)) g1 n3) (
kLd g1 l3 0 fun v8=>
Qb .int .lss v8 (.int .i64 0) fun v9=>
Qa v9 (
Jc K (.int .i64 (-1)) g1 n3) (
kLd g1 l3 0 fun v12=>
C Qu [a0,v12] g1 n3 fun v13 g2 n13=>
C Qf [v13,(.func (.func Xaj) #[] #[ptr l3 0])] g2 n13 fun v15 g3 n15=>
Jc K v15 g3 n15))
theorem ZbZ (C:CT) (a0 a1:Value) (g:G) (n:Nat) (K:Cont):Qbw C a0 a1 g n K=Zg Tryz.prog C ZI [a0,a1] g n K:=by kernel_rfl
def QaL (C:CT) (a0:Value) (g:G) (n:Nat) (K:Cont):Prop:=
Zp a0 fun v4=>
Zd v4 fun l5 o5=>
kLd g l5 (o5+3) fun v6=>
Qb .int .add v6 (.int .i64 1) fun v7=>
Zp a0 fun v8=>
Zd v8 fun l9 o9=>
kSt g l9 (o9+3) v7 fun g1=>
Zp a0 fun v11=>
Zd v11 fun l12 o12=>
kLd g1 l12 (o12+3) fun v13=>
Jc K v13 g1 n
theorem Xbl (C:CT) (a0:Value) (g:G) (n:Nat) (K:Cont):QaL C a0 g n K=Zg Tryz.prog C ZM [a0] g n K:=by kernel_rfl
def Zbc (C:CT) (a0 a1:Value) (g:G) (n:Nat) (K:Cont):Prop:=
Zp a0 fun v7=>
Zd v7 fun l8 o8=>
kLd g l8 (o8+0) fun v9=>
Zp a0 fun v13=>
Zd v13 fun l14 o14=>
kLd g l14 (o14+1) fun v15=>
C JbH [v9,a1] g n fun v11 g1 n11=>
(Zd (ptr l14 (o14+1)) fun l _=>g1 l=g l)∧Qb .int .mul v11 v15 fun v16=>
Zp a0 fun v18=>
Zd v18 fun l19 o19=>
kLd g1 l19 (o19+2) fun v20=>
Zp a0 fun v24=>
Zd v24 fun l25 o25=>
kLd g1 l25 (o25+1) fun v26=>
Qb .int .add v16 v26 fun v27=>
Zp a0 fun v30=>
Zd v30 fun l31 o31=>
kLd g1 l31 (o31+1) fun v32=>
Qb .int .add v16 v32 fun v33=>
Ju v20 (some v16) (some v27) (some v33) 11 fun v34=>
Jc K v34 g1 n11
theorem JbS (C:CT) (a0 a1:Value) (g:G) (n:Nat) (K:Cont):Zbc C a0 a1 g n K=Zg Tryz.prog C Qu [a0,a1] g n K:=by kernel_rfl
def XI (C:CT) (K:Cont) (I_l1:Zl) (t:Env) (g:G) (n:Nat):Prop:=
Qa (t 27) (
Qb .int .lss (t 5) (.int .i64 0) fun v32=>
Qa v32 (
Zd (t 8) fun l39 o39=>
kLd g l39 (o39+1) fun v40=>
Zd (t 8) fun l41 o41=>
kLd g l41 (o41+10) fun v42=>
Qb .int .add (t 19) (.int .i64 1) fun v43=>
I_l1 (puts t [(31,t 5),(32,v32),(33,.bool true),(34,undef),(35,undef),(36,undef),(37,undef),(38,.bool true),(39,(ptr l39 (o39+1))),(40,v40),(41,(ptr l41 (o41+10))),(42,v42),(5,v40),(6,v42),(43,v43),(19,v43)]) g n) (
Zd (t 8) fun l34 o34=>
kLd g l34 (o34+10) fun v35=>
Qb .int .lss v35 (t 6) fun v37=>
Qa v37 (
Zd (t 8) fun l39 o39=>
kLd g l39 (o39+1) fun v40=>
Zd (t 8) fun l41 o41=>
kLd g l41 (o41+10) fun v42=>
Qb .int .add (t 19) (.int .i64 1) fun v43=>
I_l1 (puts t [(31,t 5),(32,v32),(33,.bool false),(34,(ptr l34 (o34+10))),(35,v35),(36,t 6),(37,v37),(38,v37),(39,(ptr l39 (o39+1))),(40,v40),(41,(ptr l41 (o41+10))),(42,v42),(5,v40),(6,v42),(43,v43),(19,v43)]) g n) (
Qb .int .add (t 19) (.int .i64 1) fun v43=>
I_l1 (puts t [(31,t 5),(32,v32),(33,.bool false),(34,(ptr l34 (o34+10))),(35,v35),(36,t 6),(37,v37),(38,v37),(43,v43),(19,v43)]) g n))) (
Qb .int .add (t 19) (.int .i64 1) fun v43=>
I_l1 (puts t [(43,v43),(19,v43)]) g n)
def JaC (C:CT) (K:Cont) (t:Env) (g:G) (n:Nat):Prop:=
Jc K (.tuple #[.bool false,t 5]) g n
def JaE (C:CT) (K:Cont) (I_l1:Zl) (t:Env) (g:G) (n:Nat):Prop:=
Qb .int .lss (t 19) (t 18) fun v20=>
Qa v20 (
Xc (t 17) (t 19) 11 fun v21=>
Zd v21 fun l22 o22=>
Zo g l22 o22 11 fun c22=>
Jw [.int .i64 0,.int .i64 0,.int .u64 0,.int .u64 0,.int .u64 0,.int .u64 0,.int .u64 0,.int .u64 0,.int .u64 0,.int .u64 0,.int .i64 0] .exact g n fun l8 g2 n8=>
Xn (.agg c22.toArray) fun cg3=>
cg3.length=11∧Qx g2 l8 0 cg3 fun g3=>
kLd g3 l8 (0+0) fun v24=>
Qb .int .eql v24 (.int .i64 0) fun v26=>
Qa v26 (
Jc K (.tuple #[.bool true,(.int .i64 (-1))]) g3 n8) (
Qb .int .eql v24 (.int .i64 1) fun v28=>
Qa v28 (
XI C K I_l1 (puts t [(20,v20),(21,v21),(22,.agg c22.toArray),(8,ptr l8 0),(23,(ptr l8 (0+0))),(24,v24),(26,v26),(25,v26),(28,v28),(27,v28)]) g3 n8) (
Qb .int .eql v24 (.int .i64 2) fun v29=>
Qa v29 (
XI C K I_l1 (puts t [(20,v20),(21,v21),(22,.agg c22.toArray),(8,ptr l8 0),(23,(ptr l8 (0+0))),(24,v24),(26,v26),(25,v26),(28,v28),(27,v28),(29,v29),(27,v29)]) g3 n8) (
Qb .int .eql v24 (.int .i64 3) fun v30=>
XI C K I_l1 (puts t [(20,v20),(21,v21),(22,.agg c22.toArray),(8,ptr l8 0),(23,(ptr l8 (0+0))),(24,v24),(26,v26),(25,v26),(28,v28),(27,v28),(29,v29),(27,v29),(30,v30),(27,v30)]) g3 n8)))) (
JaC C K (puts t [(20,v20)]) g n)
def Za5 (C:CT) (a0 a1:Value) (g:G) (n:Nat) (K:Cont):Prop:=
Qb .ptr .eql a0 (.pointer none) fun v10=>
Qa v10 (
Jc K (.tuple #[.bool false,(.int .i64 (-1))]) g n) (
Qb .int .lss a1 (.int .i64 0) fun v13=>
Qa v13 (
Jc K (.tuple #[.bool false,(.int .i64 (-1))]) g n) (
C Qu [a0,a1] g n fun v17 g1 n17=>
QaN v17 fun v18=>
lfp (JaE C K) (puts (Qq [a0,a1]) [(4,.bool false),(5,.int .i64 0),(9,a0),(10,v10),(11,.bool false),(12,a1),(13,v13),(14,v13),(5,(.int .i64 (-1))),(6,.int .i64 0),(15,a0),(16,a1),(17,v17),(18,v18),(19,.int .i64 0)]) g1 n17))
theorem QbG (C:CT) (a0 a1:Value) (g:G) (n:Nat) (K:Cont):Za5 C a0 a1 g n K=Zg Tryz.prog C Jai [a0,a1] g n K:=by kernel_rfl
def Xaf (C:CT) (K:Cont) (t:Env) (g:G) (n:Nat):Prop:=
Zp (t 0) fun v26=>
Zd v26 fun l27 o27=>
kLd g l27 (o27+16) fun v28=>
Zd (t 6) fun l30 o30=>
Zo g l30 o30 12 fun c30=>
Qi [.int .i64 0,.int .i64 0,.int .i64 0,.bool false,.bool false,.int .u64 0,.int .u64 0,.int .u64 0,.int .u64 0,.int .u64 0,.int .u64 0,.int .u64 0,.int .u64 0] [(0,none,t 1),(1,some 12,.agg c30.toArray)] fun c31=>
Qi (reps 1 [.int .i64 0,.int .i64 0,.int .i64 0,.bool false,.bool false,.int .u64 0,.int .u64 0,.int .u64 0,.int .u64 0,.int .u64 0,.int .u64 0,.int .u64 0,.int .u64 0]) [(0,some 13,.agg c31.toArray)] fun c32=>
Jw c32 .exact g n fun l32 g4 n32=>
(Zd (ptr l27 (o27+16)) fun l _=>g4 l=g l)∧Zae v28 (.slice (some ⟨l32,0,none⟩) 1 1) 13 96 g4 n32 fun v33 g5 n33=>
Zp (t 0) fun v34=>
Zd v34 fun l35 o35=>
kSt g5 l35 (o35+16) v33 fun g6=>
Jc K (.tuple #[]) g6 n33
def ZW (C:CT) (K:Cont) (t:Env) (g:G) (n:Nat):Prop:=
Qa (t 14) (
Zp (t 0) fun v19=>
Zd v19 fun l20 o20=>
Zo g l20 (o20+0+2) 8 fun c22=>
Zd (t 6) fun l23 o23=>
Xn (.agg c22.toArray) fun cg3=>
cg3.length=8∧Qx g l23 (o23+4) cg3 fun g3=>
Xaf C K (puts t [(18,t 0),(19,v19),(20,(ptr l20 (o20+0))),(21,(ptr l20 (o20+0+2))),(22,.agg c22.toArray),(23,(ptr l23 (o23+4)))]) g3 n) (
Xaf C K t g n)
def JbN (C:CT) (a0 a1 a2:Value) (g:G) (n:Nat) (K:Cont):Prop:=
Zp a0 fun v9=>
Zd v9 fun l10 o10=>
kLd g l10 (o10+15) fun v11=>
Qi [.int .i64 0,.int .i64 0,.bool false,.bool false,.int .u64 0,.int .u64 0,.int .u64 0,.int .u64 0,.int .u64 0,.int .u64 0,.int .u64 0,.int .u64 0] [(0,none,a2),(1,none,v11)] fun c12=>
Jw [.int .i64 0,.int .i64 0,.bool false,.bool false,.int .u64 0,.int .u64 0,.int .u64 0,.int .u64 0,.int .u64 0,.int .u64 0,.int .u64 0,.int .u64 0] .exact g n fun l6 g1 n6=>
Xn (.agg c12.toArray) fun cg2=>
cg2.length=12∧Qx g1 l6 0 cg2 fun g2=>
Qb .int .eql a2 (.int .i64 8) fun v15=>
Qa v15 (
ZW C K (puts (Qq [a0,a1,a2]) [(7,a2),(8,a0),(9,v9),(10,(ptr l10 (o10+15))),(11,v11),(12,.agg c12.toArray),(6,ptr l6 0),(13,a2),(15,v15),(14,v15)]) g2 n6) (
Qb .int .eql a2 (.int .i64 9) fun v16=>
Qa v16 (
ZW C K (puts (Qq [a0,a1,a2]) [(7,a2),(8,a0),(9,v9),(10,(ptr l10 (o10+15))),(11,v11),(12,.agg c12.toArray),(6,ptr l6 0),(13,a2),(15,v15),(14,v15),(16,v16),(14,v16)]) g2 n6) (
Qb .int .eql a2 (.int .i64 10) fun v17=>
ZW C K (puts (Qq [a0,a1,a2]) [(7,a2),(8,a0),(9,v9),(10,(ptr l10 (o10+15))),(11,v11),(12,.agg c12.toArray),(6,ptr l6 0),(13,a2),(15,v15),(14,v15),(16,v16),(14,v16),(17,v17),(14,v17)]) g2 n6))
theorem Xcc (C:CT) (a0 a1 a2:Value) (g:G) (n:Nat) (K:Cont):JbN C a0 a1 a2 g n K=Zg Tryz.prog C QF [a0,a1,a2] g n K:=by kernel_rfl
def XD (C:CT) (K:Cont) (I_l1:Zl) (t:Env) (g:G) (n:Nat):Prop:=
Qb .int .lss (t 8) (t 7) fun v9=>
Qa v9 (
Xc (t 0) (t 8) 9 fun v14=>
Zd v14 fun l15 o15=>
Zo g l15 o15 9 fun c15=>
Xbc C (t 1) [.agg c15.toArray] g n fun v16 g1 n16=>
Qa v16 (
Jc K (t 8) g1 n16) (
Qb .int .add (t 8) (.int .i64 1) fun v18=>
I_l1 (puts t [(9,v9),(10,t 8),(5,t 8),(11,t 1),(12,t 0),(13,t 8),(14,v14),(15,.agg c15.toArray),(16,v16),(18,v18),(8,v18)]) g1 n16)) (
Jc K (.int .i64 (-1)) g n)
def JH (C:CT) (a0 a1:Value) (g:G) (n:Nat) (K:Cont):Prop:=
QaN a0 fun v7=>
lfp (XD C K) (puts (Qq [a0,a1]) [(4,.int .i64 0),(6,a0),(7,v7),(8,.int .i64 0)]) g n
theorem X6 (C:CT) (a0 a1:Value) (g:G) (n:Nat) (K:Cont):JH C a0 a1 g n K=Zg Tryz.prog C Zr [a0,a1] g n K:=by kernel_rfl
def QaW (C:CT) (a0 a1:Value) (g:G) (n:Nat) (K:Cont):Prop:=
Xn a0 fun c2=>
Jw c2 .exact g n fun l2 g1 n2=>
kLd g1 l2 (0+0) fun v5=>
Zd a1 fun l6 o6=>
kLd g1 l6 o6 fun v6=>
Qb .int .eql v5 v6 fun v7=>
Jc K v7 g1 n2
theorem Zbt (C:CT) (a0 a1:Value) (g:G) (n:Nat) (K:Cont):QaW C a0 a1 g n K=Zg Tryz.prog C Jt [a0,a1] g n K:=by kernel_rfl
def Xa5 (C:CT) (a0 a1 a2:Value) (g:G) (n:Nat) (K:Cont):Prop:=
Xn a2 fun c5=>
Jw c5 .exact g n fun l5 g1 n5=>
C ZP [a0,a1] g1 n5 fun v10 g2 n10=>
Qb .int .neq v10 (.int .i64 0) fun v12=>
Qa v12 (
Jc K v10 g2 n10) (
Zp a0 fun v15=>
Zd v15 fun l16 o16=>
C Zw [(ptr l16 (o16+3)),.int .i64 1] g2 n10 fun v17 g3 n17=>
Zp a0 fun v19=>
Zd v19 fun l20 o20=>
kLd g3 l20 (o20+0) fun v21=>
Zo g3 l5 0 8 fun c23=>
Xc v21 a1 8 fun v24=>
Zd v24 fun lg4 og4=>
Xn (.agg c23.toArray) fun cg4=>
cg4.length=8∧Qx g3 lg4 og4 cg4 fun g4=>
Jc K (.int .i64 0) g4 n17)
theorem JbG (C:CT) (a0 a1 a2:Value) (g:G) (n:Nat) (K:Cont):Xa5 C a0 a1 a2 g n K=Zg Tryz.prog C Qaj [a0,a1,a2] g n K:=by kernel_rfl
def QS (C:CT) (a0:Value) (g:G) (n:Nat) (K:Cont):Prop:=
Qb .slice .eql a0 (.slice none 0 0) fun v4=>
Qa v4 (
Jc K (.slice none 0 0) g n) (
Qi (reps 0 [.int .u64 0,.int .u64 0,.int .u64 0,.int .u64 0,.int .u64 0,.int .u64 0,.int .u64 0,.int .u64 0]) [] fun c5=>
Jw c5 .exact g n fun l5 g1 n5=>
Zae (.slice (some ⟨l5,0,none⟩) 0 0) a0 8 64 g1 n5 fun v7 g2 n7=>
Jc K v7 g2 n7)
theorem Zap (C:CT) (a0:Value) (g:G) (n:Nat) (K:Cont):QS C a0 g n K=Zg Tryz.prog C Zy [a0] g n K:=by kernel_rfl
def Jbj (C:CT) (a0 a1:Value) (g:G) (n:Nat) (K:Cont):Prop:=
Jw [.int .u64 0,.int .u64 0,.int .u64 0,.int .u64 0,.int .u64 0,.int .u64 0,.int .u64 0,.int .u64 0] .exact g n fun l4 g1 n4=>
C ZP [a0,a1] g1 n4 fun v9 g2 n9=>
Qb .int .neq v9 (.int .i64 0) fun v11=>
Qa v11 (
Qi [.int .u64 0,.int .u64 0,.int .u64 0,.int .u64 0,.int .u64 0,.int .u64 0,.int .u64 0,.int .u64 0] [] fun c12=>
Xn (.agg c12.toArray) fun cg3=>
cg3.length=8∧Qx g2 l4 0 cg3 fun g3=>
Zo g3 l4 0 8 fun r0=>
Jc K (.tuple #[.agg r0.toArray,v9]) g3 n9) (
Zp a0 fun v15=>
Zd v15 fun l16 o16=>
C Zw [(ptr l16 (o16+2)),.int .i64 1] g2 n9 fun v17 g4 n17=>
Zp a0 fun v19=>
Zd v19 fun l20 o20=>
kLd g4 l20 (o20+0) fun v21=>
Xc v21 a1 8 fun v23=>
Zd v23 fun l24 o24=>
Zo g4 l24 o24 8 fun c24=>
Xn (.agg c24.toArray) fun cg5=>
cg5.length=8∧Qx g4 l4 0 cg5 fun g5=>
Zo g5 l4 0 8 fun r0=>
Jc K (.tuple #[.agg r0.toArray,.int .i64 0]) g5 n17)
theorem XbQ (C:CT) (a0 a1:Value) (g:G) (n:Nat) (K:Cont):Jbj C a0 a1 g n K=Zg Tryz.prog C Zar [a0,a1] g n K:=by kernel_rfl
def ZA (C:CT) (a0 a1:Value) (g:G) (n:Nat) (K:Cont):Prop:=
C Qf [a0,a1] g n fun v7 g1 n7=>
Qb .int .geq v7 (.int .i64 0) fun v8=>
Jc K v8 g1 n7
theorem ZS (C:CT) (a0 a1:Value) (g:G) (n:Nat) (K:Cont):ZA C a0 a1 g n K=Zg Tryz.prog C Zx [a0,a1] g n K:=by kernel_rfl
def JaK (C:CT) (a0:Value) (g:G) (n:Nat) (K:Cont):Prop:=
Xn a0 fun c1=>
Jw c1 .exact g n fun l1 g1 n1=>
kLd g1 l1 (0+0) fun v4=>
C QaP [v4] g1 n1 fun v5 g2 n5=>
kUn .not v5 fun v6=>
Jc K v6 g2 n5
theorem Qbh (C:CT) (a0:Value) (g:G) (n:Nat) (K:Cont):JaK C a0 g n K=Zg Tryz.prog C J7 [a0] g n K:=by kernel_rfl
def QcD (C:CT) (a0:Value) (g:G) (n:Nat) (K:Cont):Prop:=
Qb .int .geq a0 (.int .i64 0) fun v4=>
Qa v4 (
Qb .int .leq a0 (.int .i64 3) fun v7=>
Jc K v7 g n) (
Jc K (.bool false) g n)
theorem JcJ (C:CT) (a0:Value) (g:G) (n:Nat) (K:Cont):QcD C a0 g n K=Zg Tryz.prog C QaP [a0] g n K:=by kernel_rfl
def Zj (C:CT) (K:Cont) (I_l1:Zl) (t:Env) (g:G) (n:Nat):Prop:=
Qb .int .add (t 6) (.int .i64 1) fun v21=>
I_l1 (puts t [(20,t 6),(21,v21),(6,v21)]) g n
def Qz (C:CT) (K:Cont) (t:Env) (g:G) (n:Nat):Prop:=
Ju (t 0) (some (t 5)) none none 11 fun v38=>
Zaw v38 [.int .i64 0,.int .i64 0,.int .u64 0,.int .u64 0,.int .u64 0,.int .u64 0,.int .u64 0,.int .u64 0,.int .u64 0,.int .u64 0,.int .i64 0] g fun v_ g6=>
Ju (t 0) none (some (t 5)) none 11 fun v41=>
Jc K v41 g6 n
def Zz (C:CT) (K:Cont) (I_l1:Zl) (t:Env) (g:G) (n:Nat):Prop:=
QaN (t 0) fun v18=>
Qb .int .lss (t 6) v18 fun v19=>
Qa v19 (
Xc (t 0) (t 6) 11 fun v24=>
Zd v24 fun l25 o25=>
Zo g l25 o25 11 fun c25=>
Jw [.int .i64 0,.int .i64 0,.int .u64 0,.int .u64 0,.int .u64 0,.int .u64 0,.int .u64 0,.int .u64 0,.int .u64 0,.int .u64 0,.int .i64 0] .exact g n fun l7 g2 n7=>
Xn (.agg c25.toArray) fun cg3=>
cg3.length=11∧Qx g2 l7 0 cg3 fun g3=>
Zo g3 l7 0 11 fun c27=>
Xbc C (t 1) [.agg c27.toArray] g3 n7 fun v28 g4 n28=>
kUn .not v28 fun v29=>
Qa v29 (
Zo g4 l7 0 11 fun c32=>
Xc (t 0) (t 5) 11 fun v33=>
Zd v33 fun lg5 og5=>
Xn (.agg c32.toArray) fun cg5=>
cg5.length=11∧Qx g4 lg5 og5 cg5 fun g5=>
Qb .int .add (t 5) (.int .i64 1) fun v35=>
Zj C K I_l1 (puts t [(16,t 6),(17,t 0),(18,v18),(19,v19),(22,t 0),(23,t 6),(24,v24),(25,.agg c25.toArray),(7,ptr l7 0),(26,t 1),(27,.agg c27.toArray),(28,v28),(29,v29),(30,t 0),(31,t 5),(32,.agg c32.toArray),(33,v33),(34,t 5),(35,v35),(5,v35)]) g5 n28) (
Zj C K I_l1 (puts t [(16,t 6),(17,t 0),(18,v18),(19,v19),(22,t 0),(23,t 6),(24,v24),(25,.agg c25.toArray),(7,ptr l7 0),(26,t 1),(27,.agg c27.toArray),(28,v28),(29,v29)]) g4 n28)) (
Qz C K (puts t [(16,t 6),(17,t 0),(18,v18),(19,v19)]) g n)
def JD (C:CT) (a0 a1:Value) (g:G) (n:Nat) (K:Cont):Prop:=
C Qf [a0,a1] g n fun v10 g1 n10=>
Qb .int .eql v10 (.int .i64 (-1)) fun v12=>
Qa v12 (
Jc K a0 g1 n10) (
Qb .int .add v10 (.int .i64 1) fun v15=>
lfp (Zz C K) (puts (Qq [a0,a1]) [(4,.slice none 0 0),(8,a0),(9,a1),(10,v10),(5,v10),(11,v10),(12,v12),(14,v10),(15,v15),(6,v15)]) g1 n10)
theorem JW (C:CT) (a0 a1:Value) (g:G) (n:Nat) (K:Cont):JD C a0 a1 g n K=Zg Tryz.prog C Qp [a0,a1] g n K:=by kernel_rfl
def ZL (C:CT) (a0:Value) (g:G) (n:Nat) (K:Cont):Prop:=
Qb .slice .eql a0 (.slice none 0 0) fun v4=>
Qa v4 (
Jc K (.slice none 0 0) g n) (
Qi (reps 0 [.int .i64 0,.int .i64 0,.int .u64 0,.int .u64 0,.int .u64 0,.int .u64 0,.int .u64 0,.int .u64 0,.int .u64 0,.int .u64 0,.int .i64 0]) [] fun c5=>
Jw c5 .exact g n fun l5 g1 n5=>
Zae (.slice (some ⟨l5,0,none⟩) 0 0) a0 11 88 g1 n5 fun v7 g2 n7=>
Jc K v7 g2 n7)
theorem Qab (C:CT) (a0:Value) (g:G) (n:Nat) (K:Cont):ZL C a0 g n K=Zg Tryz.prog C Xt [a0] g n K:=by kernel_rfl
def Qcl (C:CT) (a0:Value) (g:G) (n:Nat) (K:Cont):Prop:=
Xn a0 fun c1=>
Jw c1 .exact g n fun l1 g1 n1=>
kLd g1 l1 (0+0) fun v4=>
Qb .int .eql v4 (.int .i64 0) fun v5=>
Jc K v5 g1 n1
theorem XcI (C:CT) (a0:Value) (g:G) (n:Nat) (K:Cont):Qcl C a0 g n K=Zg Tryz.prog C Zav [a0] g n K:=by kernel_rfl
def QA (C:CT) (K:Cont) (I_l1:Zl) (t:Env) (g:G) (n:Nat):Prop:=
Qb .int .lss (t 8) (t 7) fun v9=>
Qa v9 (
Xc (t 0) (t 8) 11 fun v14=>
Zd v14 fun l15 o15=>
Zo g l15 o15 11 fun c15=>
Xbc C (t 1) [.agg c15.toArray] g n fun v16 g1 n16=>
Qa v16 (
Jc K (t 8) g1 n16) (
Qb .int .add (t 8) (.int .i64 1) fun v18=>
I_l1 (puts t [(9,v9),(10,t 8),(5,t 8),(11,t 1),(12,t 0),(13,t 8),(14,v14),(15,.agg c15.toArray),(16,v16),(18,v18),(8,v18)]) g1 n16)) (
Jc K (.int .i64 (-1)) g n)
def QE (C:CT) (a0 a1:Value) (g:G) (n:Nat) (K:Cont):Prop:=
QaN a0 fun v7=>
lfp (QA C K) (puts (Qq [a0,a1]) [(4,.int .i64 0),(6,a0),(7,v7),(8,.int .i64 0)]) g n
theorem XY (C:CT) (a0 a1:Value) (g:G) (n:Nat) (K:Cont):QE C a0 a1 g n K=Zg Tryz.prog C Qf [a0,a1] g n K:=by kernel_rfl
def XbM (C:CT) (a0 a1 a2:Value) (g:G) (n:Nat) (K:Cont):Prop:=
Xn a2 fun c5=>
Jw c5 .exact g n fun l5 g1 n5=>
Zp a0 fun v8=>
Zd v8 fun l9 o9=>
kLd g1 l9 (o9+0+10) fun v11=>
Qb .int .geq v11 (.int .i64 0) fun v17=>
Qa v17 (
Qb .int .neq v11 a1 fun v21=>
Qa v21 (
C Xq [v11] g1 n5 fun v26 g2 n26=>
C QL [a0,.int .i64 1,a1,v26,.int .i64 13] g2 n26 fun v27 g3 n27=>
Jc K (.tuple #[]) g3 n27) (
Zp a0 fun v30=>
Zd v30 fun l31 o31=>
kLd g1 l31 (o31+0+11) fun v33=>
Qb .int .eql v33 (.int .u8 0) fun v34=>
Qa v34 (
C JQ [a0,a1,.int .i64 9] g1 n5 fun v37 g4 n37=>
Jc K (.tuple #[]) g4 n37) (
C JV [a0,a1] g1 n5 fun v14 g5 n14=>
Jc K (.tuple #[]) g5 n14))) (
Zp a0 fun v30=>
Zd v30 fun l31 o31=>
kLd g1 l31 (o31+0+11) fun v33=>
Qb .int .eql v33 (.int .u8 0) fun v34=>
Qa v34 (
C JQ [a0,a1,.int .i64 9] g1 n5 fun v37 g6 n37=>
Jc K (.tuple #[]) g6 n37) (
C JV [a0,a1] g1 n5 fun v14 g7 n14=>
Jc K (.tuple #[]) g7 n14))
theorem Qcd (C:CT) (a0 a1 a2:Value) (g:G) (n:Nat) (K:Cont):XbM C a0 a1 a2 g n K=Zg Tryz.prog C Jaf [a0,a1,a2] g n K:=by kernel_rfl
def QbM (C:CT) (a0 a1 a2:Value) (g:G) (n:Nat) (K:Cont):Prop:=
Xn a2 fun c5=>
Jw c5 .exact g n fun l5 g1 n5=>
C ZT [a0] g1 n5 fun v8 g2 n8=>
C Xq [a1] g2 n8 fun v10 g3 n10=>
Qb .int .andNot v8 v10 fun v11=>
Qb .int .eql v11 (.int .u8 0) fun v13=>
Qa v13 (
C JQ [a0,a1,.int .i64 10] g3 n10 fun v16 g4 n16=>
Jc K (.tuple #[]) g4 n16) (
C QL [a0,.int .i64 2,a1,v11,.int .i64 12] g3 n10 fun v20 g5 n20=>
Jc K (.tuple #[]) g5 n20)
theorem Qce (C:CT) (a0 a1 a2:Value) (g:G) (n:Nat) (K:Cont):QbM C a0 a1 a2 g n K=Zg Tryz.prog C Zaf [a0,a1,a2] g n K:=by kernel_rfl
def Xap (C:CT) (K:Cont) (t:Env) (g:G) (n:Nat):Prop:=
C QF [t 0,t 1,.int .i64 11] g n fun v33 g4 n33=>
Jc K (.tuple #[]) g4 n33
def Xb7 (C:CT) (a0 a1 a2:Value) (g:G) (n:Nat) (K:Cont):Prop:=
Xn a2 fun c5=>
Jw c5 .exact g n fun l5 g1 n5=>
Zp a0 fun v7=>
Zd v7 fun l8 o8=>
kLd g1 l8 (o8+0+10) fun v10=>
Qb .int .eql v10 a1 fun v12=>
Qa v12 (
Zp a0 fun v14=>
Zd v14 fun l15 o15=>
kSt g1 l15 (o15+0+10) (.int .i64 (-1)) fun g2=>
Zo g2 l5 0 12 fun c18=>
C Qaf [a0,.agg c18.toArray] g2 n5 fun v19 g3 n19=>
Xap C K (puts (Qq [a0,a1,a2]) [(5,ptr l5 0),(6,a0),(7,v7),(8,(ptr l8 (o8+0))),(9,(ptr l8 (o8+0+10))),(10,v10),(11,a1),(12,v12),(13,a0),(14,v14),(15,(ptr l15 (o15+0))),(16,(ptr l15 (o15+0+10))),(17,a0),(18,.agg c18.toArray),(19,v19)]) g3 n19) (
Zp a0 fun v21=>
Zd v21 fun l22 o22=>
kLd g1 l22 (o22+0+11) fun v24=>
C Xq [a1] g1 n5 fun v26 g5 n26=>
(Zd (ptr l22 (o22+0+11)) fun l _=>g5 l=g1 l)∧Qb .int .andNot v24 v26 fun v27=>
Zp a0 fun v28=>
Zd v28 fun l29 o29=>
kSt g5 l29 (o29+0+11) v27 fun g6=>
Xap C K (puts (Qq [a0,a1,a2]) [(5,ptr l5 0),(6,a0),(7,v7),(8,(ptr l8 (o8+0))),(9,(ptr l8 (o8+0+10))),(10,v10),(11,a1),(12,v12),(20,a0),(21,v21),(22,(ptr l22 (o22+0))),(23,(ptr l22 (o22+0+11))),(24,v24),(25,a1),(26,v26),(27,v27),(28,v28),(29,(ptr l29 (o29+0))),(30,(ptr l29 (o29+0+11)))]) g6 n26)
theorem Qct (C:CT) (a0 a1 a2:Value) (g:G) (n:Nat) (K:Cont):Xb7 C a0 a1 a2 g n K=Zg Tryz.prog C Qap [a0,a1,a2] g n K:=by kernel_rfl
def Jbx (C:CT) (a0 a1 a2:Value) (g:G) (n:Nat) (K:Cont):Prop:=
Xn a2 fun c5=>
Jw c5 .exact g n fun l5 g1 n5=>
Zp a0 fun v9=>
Zd v9 fun l10 o10=>
kLd g1 l10 (o10+0+10) fun v12=>
C Xq [v12] g1 n5 fun v13 g2 n13=>
C QL [a0,.int .i64 4,a1,v13,.int .i64 13] g2 n13 fun v14 g3 n14=>
Jc K (.tuple #[]) g3 n14
theorem Xb3 (C:CT) (a0 a1 a2:Value) (g:G) (n:Nat) (K:Cont):Jbx C a0 a1 a2 g n K=Zg Tryz.prog C J8 [a0,a1,a2] g n K:=by kernel_rfl
def ZbM (C:CT) (a0 a1 a2:Value) (g:G) (n:Nat) (K:Cont):Prop:=
Xn a2 fun c5=>
Jw c5 .exact g n fun l5 g1 n5=>
C ZT [a0] g1 n5 fun v9 g2 n9=>
C QL [a0,.int .i64 5,a1,v9,.int .i64 12] g2 n9 fun v10 g3 n10=>
Jc K (.tuple #[]) g3 n10
theorem Jca (C:CT) (a0 a1 a2:Value) (g:G) (n:Nat) (K:Cont):ZbM C a0 a1 a2 g n K=Zg Tryz.prog C Zah [a0,a1,a2] g n K:=by kernel_rfl
def Xa6 (C:CT) (a0 a1:Value) (g:G) (n:Nat) (K:Cont):Prop:=
Xn a0 fun c2=>
Jw c2 .exact g n fun l2 g1 n2=>
kLd g1 l2 (0+0) fun v5=>
Qb .int .neq v5 (.int .i64 0) fun v6=>
Qa v6 (
kLd g1 l2 (0+1) fun v9=>
Zd a1 fun l10 o10=>
kLd g1 l10 o10 fun v10=>
Qb .int .eql v9 v10 fun v11=>
Jc K v11 g1 n2) (
Jc K (.bool false) g1 n2)
theorem XbD (C:CT) (a0 a1:Value) (g:G) (n:Nat) (K:Cont):Xa6 C a0 a1 g n K=Zg Tryz.prog C Xaj [a0,a1] g n K:=by kernel_rfl
def Zau (C:CT) (K:Cont) (t:Env) (g:G) (n:Nat):Prop:=
Qa (t 8) (
Qb .int .rem (t 1) (t 0) fun v15=>
Jc K v15 g n) (
Jc K (.int .i64 0) g n)
def Zd2 (C:CT) (a0 a1:Value) (g:G) (n:Nat) (K:Cont):Prop:=
Qb .int .lss a1 (.int .i64 0) fun v6=>
Qa v6 (
Jc K (.int .i64 0) g n) (
Qb .int .eql a0 (.int .i64 1) fun v9=>
Qa v9 (
Zau C K (puts (Qq [a0,a1]) [(4,.int .i64 0),(5,a1),(6,v6),(7,a0),(9,v9),(8,v9)]) g n) (
Qb .int .eql a0 (.int .i64 2) fun v10=>
Qa v10 (
Zau C K (puts (Qq [a0,a1]) [(4,.int .i64 0),(5,a1),(6,v6),(7,a0),(9,v9),(8,v9),(10,v10),(8,v10)]) g n) (
Qb .int .eql a0 (.int .i64 4) fun v11=>
Qa v11 (
Zau C K (puts (Qq [a0,a1]) [(4,.int .i64 0),(5,a1),(6,v6),(7,a0),(9,v9),(8,v9),(10,v10),(8,v10),(11,v11),(8,v11)]) g n) (
Qb .int .eql a0 (.int .i64 8) fun v12=>
Zau C K (puts (Qq [a0,a1]) [(4,.int .i64 0),(5,a1),(6,v6),(7,a0),(9,v9),(8,v9),(10,v10),(8,v10),(11,v11),(8,v11),(12,v12),(8,v12)]) g n))))
theorem QdL (C:CT) (a0 a1:Value) (g:G) (n:Nat) (K:Cont):Zd2 C a0 a1 g n K=Zg Tryz.prog C JbH [a0,a1] g n K:=by kernel_rfl
def Zby (C:CT) (a0 a1:Value) (g:G) (n:Nat) (K:Cont):Prop:=
Qb .ptr .eql a0 (.pointer none) fun v7=>
Qa v7 (
Jc K (.int .i64 1) g n) (
Qb .int .lss a1 (.int .i64 0) fun v10=>
Qa v10 (
Jc K (.int .i64 12) g n) (
Zp a0 fun v14=>
Zd v14 fun l15 o15=>
kLd g l15 (o15+0) fun v16=>
QaN v16 fun v17=>
Qb .int .geq a1 v17 fun v18=>
Qa v18 (
Jc K (.int .i64 12) g n) (
Jc K (.int .i64 0) g n)))
theorem QbY (C:CT) (a0 a1:Value) (g:G) (n:Nat) (K:Cont):Zby C a0 a1 g n K=Zg Tryz.prog C ZP [a0,a1] g n K:=by kernel_rfl
def Qa6 (C:CT) (K:Cont) (I_l1:Zl) (t:Env) (g:G) (n:Nat):Prop:=
Qb .int .lss (t 30) (t 29) fun v31=>
Qa v31 (
Xc (t 28) (t 30) 1 fun v32=>
Zd v32 fun l33 o33=>
kLd g l33 o33 fun v33=>
C QF [t 0,v33,t 4] g n fun v37 g5 n37=>
Qb .int .add (t 30) (.int .i64 1) fun v38=>
I_l1 (puts t [(31,v31),(32,v32),(33,v33),(11,v33),(34,t 0),(35,v33),(36,t 4),(37,v37),(38,v38),(30,v38)]) g5 n37) (
Jc K (.tuple #[]) g n)
def JbV (C:CT) (a0 a1 a2 a3 a4:Value) (g:G) (n:Nat) (K:Cont):Prop:=
Zp a0 fun v18=>
Zd v18 fun l19 o19=>
kSt g l19 (o19+0+12) a1 fun g1=>
Zp a0 fun v21=>
Zd v21 fun l22 o22=>
kSt g1 l22 (o22+0+13) a2 fun g2=>
Zp a0 fun v24=>
Zd v24 fun l25 o25=>
kSt g2 l25 (o25+0+14) a3 fun g3=>
C Ja3 [a3] g3 n fun v28 g4 n28=>
QaN v28 fun v29=>
lfp (Qa6 C K) (puts (Qq [a0,a1,a2,a3,a4]) [(12,a0),(13,a0),(14,a0),(15,a1),(16,a2),(17,a3),(18,v18),(19,(ptr l19 (o19+0))),(20,(ptr l19 (o19+0+12))),(21,v21),(22,(ptr l22 (o22+0))),(23,(ptr l22 (o22+0+13))),(24,v24),(25,(ptr l25 (o25+0))),(26,(ptr l25 (o25+0+14))),(27,a3),(28,v28),(29,v29),(30,.int .i64 0)]) g4 n28
theorem Jcc (C:CT) (a0 a1 a2 a3 a4:Value) (g:G) (n:Nat) (K:Cont):JbV C a0 a1 a2 a3 a4 g n K=Zg Tryz.prog C QL [a0,a1,a2,a3,a4] g n K:=by kernel_rfl
def Xa9 (C:CT) (a0:Value) (g:G) (n:Nat) (K:Cont):Prop:=
Zp a0 fun v4=>
Zd v4 fun l5 o5=>
kLd g l5 (o5+0+11) fun v7=>
Zp a0 fun v9=>
Zd v9 fun l10 o10=>
kLd g l10 (o10+0+10) fun v12=>
C Xq [v12] g n fun v13 g1 n13=>
(Zd (ptr l5 (o5+0+11)) fun l _=>g1 l=g l)∧Qb .int .or v7 v13 fun v14=>
Jc K v14 g1 n13
theorem ZbH (C:CT) (a0:Value) (g:G) (n:Nat) (K:Cont):Xa9 C a0 g n K=Zg Tryz.prog C ZT [a0] g n K:=by kernel_rfl
def JbK (C:CT) (K:Cont) (I_l1:Zl) (t:Env) (g:G) (n:Nat):Prop:=
Qb .int .lss (t 5) (.int .i64 8) fun v6=>
Qa v6 (
C Za4 [t 0,t 5] g n fun v10 g1 n10=>
Qa v10 (
Qi (reps 1 [.int .i64 0]) [(0,none,t 5)] fun c13=>
Jw c13 .exact g1 n10 fun l13 g2 n13=>
Zae (t 3) (.slice (some ⟨l13,0,none⟩) 1 1) 1 8 g2 n13 fun v14 g3 n14=>
Qb .int .add (t 5) (.int .i64 1) fun v15=>
I_l1 (puts t [(6,v6),(7,t 5),(4,t 5),(8,t 0),(9,t 5),(10,v10),(11,t 3),(12,t 5),(13,(.slice (some ⟨l13,0,none⟩) 1 1)),(14,v14),(3,v14),(15,v15),(5,v15)]) g3 n14) (
Qb .int .add (t 5) (.int .i64 1) fun v15=>
I_l1 (puts t [(6,v6),(7,t 5),(4,t 5),(8,t 0),(9,t 5),(10,v10),(15,v15),(5,v15)]) g1 n10)) (
Jc K (t 3) g n)
def ZcN (C:CT) (a0:Value) (g:G) (n:Nat) (K:Cont):Prop:=
lfp (JbK C K) (puts (Qq [a0]) [(2,.slice none 0 0),(3,.slice none 0 0),(5,.int .i64 0)]) g n
theorem Xdd (C:CT) (a0:Value) (g:G) (n:Nat) (K:Cont):ZcN C a0 g n K=Zg Tryz.prog C Ja3 [a0] g n K:=by kernel_rfl
end Go.Proofs.YtmchcjaomcdbmaaGreat.Gen
