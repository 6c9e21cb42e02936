import Derived.Test.YtkdfaijmjmnhjaaGreatProg
import Derived.KernelRfl
import Derived.Test.YtkdfaijmjmnhjaaGreatAbsC
/- What the machine comes to on each function, printed by program; each equation is checked by the kernel. -/
set_option linter.all false
set_option linter.deprecated false
namespace Go.Proofs.YtkdfaijmjmnhjaaGreat.Gen
open Go Go.Proofs.YtkdfaijmjmnhjaaGreat.Abs
def Qe:FuncId:=4
def Zbi:FuncId:=9
def XW:FuncId:=10
def Zbk:FuncId:=11
def JX:FuncId:=12
def Qo:FuncId:=13
def J7:FuncId:=15
def Jo:FuncId:=16
def QO:FuncId:=17
def ZG:FuncId:=18
def Jr:FuncId:=19
def Qaj:FuncId:=20
def JN:FuncId:=21
def XU:FuncId:=23
def Z6:FuncId:=24
def ZbH:FuncId:=28
def Jbc:FuncId:=29
def QU:FuncId:=30
def Zaf:FuncId:=31
def Xcr:FuncId:=32
def Jal:FuncId:=33
def Zb2:FuncId:=34
def Zac:FuncId:=35
def ZaN:FuncId:=36
def Qak:FuncId:=37
def XaX:FuncId:=38
def ZaE:FuncId:=39
def JF:FuncId:=40
def JZ:FuncId:=41
def Ql:FuncId:=42
def JI:FuncId:=43
def J6:FuncId:=44
def QaB:FuncId:=45
def Xt:FuncId:=46
def X2:FuncId:=47
def Zav:FuncId:=48
def ZbP:FuncId:=49
def Jv:FuncId:=50
def Xn:FuncId:=51
def Xat:FuncId:=52
def Jq:FuncId:=53
def QaG:FuncId:=54
def JaP:FuncId:=55
def Qv:FuncId:=56
def Xa4:FuncId:=57
def Xam:FuncId:=58
def Jbo:FuncId:=59
def Zal:FuncId:=60
def Qf:FuncId:=61
def QbI:FuncId:=62
def JcB:FuncId:=63
def Qal:FuncId:=64
def XaU:FuncId:=65
def XaC:FuncId:=66
def Xbp:FuncId:=67
def Xq:FuncId:=68
def QaE:FuncId:=69
def Xv:FuncId:=70
def Jaz:FuncId:=71
def Xp:FuncId:=72
def Qas:FuncId:=73
def JC:FuncId:=74
def JA:FuncId:=75
def Xak:FuncId:=76
def Jaa:FuncId:=77
def Xal:FuncId:=78
def ZB:FuncId:=79
def Zaq:FuncId:=80
def Qbg:FuncId:=81
def QaZ:FuncId:=82
def ZaG:FuncId:=83
def XaE:FuncId:=84
def Xb8:FuncId:=85
def Zb0:FuncId:=86
def ZbE:FuncId:=87
def Zs:FuncId:=88
def XbW:FuncId:=89
def Jas:FuncId:=90
def QaA:FuncId:=91
def ZJ:FuncId:=92
def Qa6:FuncId:=93
def Zbl:FuncId:=94
def Zu:FuncId:=95
def Jao:FuncId:=96
def Zaa:FuncId:=97
def Qaa:FuncId:=98
def X4:FuncId:=99
def Qt:FuncId:=100
def ZK:FuncId:=101
def Qr:FuncId:=102
def JbH:FuncId:=103
def Qs:FuncId:=104
def ZP:FuncId:=105
def Zaw:FuncId:=106
def Qb8:FuncId:=107
def Jbp:FuncId:=108
def Jag:FuncId:=109
def Qar:FuncId:=110
def Z9:FuncId:=111
def Zar:FuncId:=112
def Zad:FuncId:=113
def Qan:FuncId:=114
def Qda:FuncId:=115
def Qb5:FuncId:=116
def JaW:FuncId:=117
def JP:FuncId:=118
def JY:FuncId:=119
def Jbj:FuncId:=120
def JaC:FuncId:=122
def Qdp:FuncId:=123
def Zap:FuncId:=124
def Jap:FuncId:=125
def Xax:FuncId:=126
def Jai:FuncId:=127
def Qap:FuncId:=128
def Jau:FuncId:=129
def XO:FuncId:=130
def Qy:FuncId:=131
def Zh:FuncId:=132
def XaH:FuncId:=133
def JV:FuncId:=134
def Ju:FuncId:=135
def Zy:FuncId:=136
def Zau:FuncId:=137
def Za6:FuncId:=139
def Qm:FuncId:=143
def Jcp:FuncId:=144
def Qah:FuncId:=145
def XG:FuncId:=146
def JbM:FuncId:=147
def Zcy:FuncId:=148
def Jah:FuncId:=149
def Qct:FuncId:=150
def Qau:FuncId:=151
def XbC:FuncId:=152
def QbF:FuncId:=153
def JU:FuncId:=154
def Q0:FuncId:=156
def ZT:FuncId:=157
def Q6:FuncId:=158
def Qat:FuncId:=159
def Jb6:FuncId:=160
def Jcs:FuncId:=165
def Zan:FuncId:=167
def ZA:FuncId:=168
def XH:FuncId:=169
def QN:FuncId:=170
def ZX:FuncId:=171
def Qab:FuncId:=172
def Xao:FuncId:=173
def Jar:FuncId:=174
def Xau:FuncId:=175
def Jad:FuncId:=176
def Qbi:FuncId:=177
def JB:FuncId:=187
def QX:FuncId:=188
def Xah:FuncId:=189
def Ja6:FuncId:=190
def Js:FuncId:=202
def Xx:FuncId:=203
def ZaB (C:CT) (K:Cont) (J:Qj) (t:Env) (g:G) (n:Nat):Prop:=
J t g n
def QaD (C:CT) (K:Cont) (J:Qj) (I_l1:Qj) (t:Env) (g:G) (n:Nat):Prop:=
Jaw (t 0) fun v51=>
Jb .int .lss (t 8) v51 fun v52=>
Qa v52 (
Xd (t 0) (t 8) 1 fun v58=>
Qd v58 fun l59 o59=>
kLd g l59 o59 fun v59=>
Qao .i64 v59 fun v60=>
Jb .int .add v60 (.int .i64 1) fun v61=>
Xf [.int .i64 0,.int .i64 0,.int .i64 0,.int .i64 0,.int .i64 0] [(0,none,.int .i64 1),(1,none,.int .i64 1),(4,none,v61)] fun c62=>
Jb .int .rem (t 8) (.int .i64 3) fun v64=>
Jb .int .mul (.int .i64 8) v64 fun v65=>
Jb .int .add (.int .i64 192) v65 fun v66=>
Xf [.int .i64 0,.int .i64 0,.int .i64 0,.int .i64 0,.int .i64 0] [(0,none,.int .i64 9),(1,none,.int .i64 1),(4,none,v66)] fun c67=>
Jb .int .rem (t 8) (.int .i64 3) fun v69=>
Jb .int .mul (.int .i64 8) v69 fun v70=>
Jb .int .add (.int .i64 192) v70 fun v71=>
Xf [.int .i64 0,.int .i64 0,.int .i64 0,.int .i64 0,.int .i64 0] [(0,none,.int .i64 8),(1,none,.int .i64 2),(4,none,v71)] fun c72=>
Xf [.int .i64 0,.int .i64 0,.int .i64 0,.int .i64 0,.int .i64 0] [(0,none,.int .i64 21),(1,none,.int .i64 2)] fun c73=>
Xf (reps 4 [.int .i64 0,.int .i64 0,.int .i64 0,.int .i64 0,.int .i64 0]) [(0,some 5,.agg c62.toArray),(5,some 5,.agg c67.toArray),(10,some 5,.agg c72.toArray),(15,some 5,.agg c73.toArray)] fun c74=>
Zq c74 .exact g n fun l74 g7 n74=>
Zt (t 7) (.slice (some ⟨l74,0,none⟩) 4 4) 5 40 g7 n74 fun v75 g8 n75=>
Jb .int .add (t 8) (.int .i64 1) fun v54=>
I_l1 (puts t [(49,t 8),(50,t 0),(51,v51),(52,v52),(55,t 7),(56,t 0),(57,t 8),(58,v58),(59,v59),(60,v60),(61,v61),(62,.agg c62.toArray),(63,t 8),(64,v64),(65,v65),(66,v66),(67,.agg c67.toArray),(68,t 8),(69,v69),(70,v70),(71,v71),(72,.agg c72.toArray),(73,.agg c73.toArray),(74,(.slice (some ⟨l74,0,none⟩) 4 4)),(75,v75),(7,v75),(53,t 8),(54,v54),(8,v54)]) g8 n75) (
ZaB C K J (puts t [(49,t 8),(50,t 0),(51,v51),(52,v52)]) g n)
def QM (C:CT) (K:Cont) (J:Qj) (I_l3:Qj) (I_l5:Qj) (t:Env) (g:G) (n:Nat):Prop:=
Jb .int .add (t 15) (.int .i64 1) fun v133=>
I_l5 (puts t [(132,t 15),(133,v133),(15,v133)]) g n
def XM (C:CT) (K:Cont) (J:Qj) (I_l3:Qj) (I_l5:Qj) (t:Env) (g:G) (n:Nat):Prop:=
Xd (t 14) (t 15) 5 fun v150=>
Qd v150 fun l151 o151=>
kLd g l151 (o151+0) fun v152=>
Jb .int .eql v152 (.int .i64 3) fun v153=>
Qa v153 (
Xd (t 14) (t 15) 5 fun v157=>
Qd v157 fun l158 o158=>
kLd g l158 (o158+4) fun v159=>
Xf (reps 1 [.int .u64 0]) [(0,none,v159)] fun c160=>
Zq c160 .exact g n fun l160 g21 n160=>
Zt (t 12) (.slice (some ⟨l160,0,none⟩) 1 1) 1 8 g21 n160 fun v161 g22 n161=>
QM C K J I_l3 I_l5 (puts t [(148,t 14),(149,t 15),(150,v150),(151,(ptr l151 (o151+0))),(152,v152),(153,v153),(154,t 12),(155,t 14),(156,t 15),(157,v157),(158,(ptr l158 (o158+4))),(159,v159),(160,(.slice (some ⟨l160,0,none⟩) 1 1)),(161,v161),(12,v161)]) g22 n161) (
QM C K J I_l3 I_l5 (puts t [(148,t 14),(149,t 15),(150,v150),(151,(ptr l151 (o151+0))),(152,v152),(153,v153)]) g n)
def Xaz (C:CT) (K:Cont) (J:Qj) (I_l3:Qj) (t:Env) (g:G) (n:Nat):Prop:=
Jb .int .add (t 13) (.int .i64 1) fun v105=>
I_l3 (puts t [(104,t 13),(105,v105),(13,v105)]) g n
def Qax (C:CT) (K:Cont) (J:Qj) (I_l3:Qj) (t:Env) (g:G) (n:Nat):Prop:=
C QO [t 5,.int .i64 0] g n fun v163 g23 n163=>
C ZG [t 5,.int .i64 0] g23 n163 fun v166 g24 n166=>
Xc v166 0 fun v167=>
Xc v166 1 fun v168=>
Zq [.int .i64 0,.int .i64 0,.bool false,.bool false,.int .u64 0,.int .u64 0,.int .u64 0,.int .u64 0,.int .u64 0,.int .u64 0,.int .u64 0,.int .u64 0] .exact g24 n166 fun l16 g25 n16=>
Zn v167 fun cg26=>
cg26.length=12∧Xu g25 l16 0 cg26 fun g26=>
Zo g26 l16 0 12 fun c170=>
C JN [t 9,.agg c170.toArray] g26 n16 fun v171 g27 n171=>
Xaz C K J I_l3 (puts t [(162,t 5),(163,v163),(165,t 5),(166,v166),(164,v166),(167,v167),(168,v168),(16,ptr l16 0),(17,v168),(169,t 9),(170,.agg c170.toArray),(171,v171)]) g27 n171
def ZaD (C:CT) (K:Cont) (J:Qj) (I_l3:Qj) (I_l5:Qj) (t:Env) (g:G) (n:Nat):Prop:=
Jaw (t 14) fun v130=>
Jb .int .lss (t 15) v130 fun v131=>
Qa v131 (
Xd (t 14) (t 15) 5 fun v136=>
Qd v136 fun l137 o137=>
kLd g l137 (o137+0) fun v138=>
Jb .int .eql v138 (.int .i64 8) fun v139=>
Qa v139 (
Xd (t 14) (t 15) 5 fun v143=>
Qd v143 fun l144 o144=>
kLd g l144 (o144+4) fun v145=>
Xf (reps 1 [.int .u64 0]) [(0,none,v145)] fun c146=>
Zq c146 .exact g n fun l146 g19 n146=>
Zt (t 11) (.slice (some ⟨l146,0,none⟩) 1 1) 1 8 g19 n146 fun v147 g20 n147=>
XM C K J I_l3 I_l5 (puts t [(128,t 15),(129,t 14),(130,v130),(131,v131),(134,t 14),(135,t 15),(136,v136),(137,(ptr l137 (o137+0))),(138,v138),(139,v139),(140,t 11),(141,t 14),(142,t 15),(143,v143),(144,(ptr l144 (o144+4))),(145,v145),(146,(.slice (some ⟨l146,0,none⟩) 1 1)),(147,v147),(11,v147)]) g20 n147) (
XM C K J I_l3 I_l5 (puts t [(128,t 15),(129,t 14),(130,v130),(131,v131),(134,t 14),(135,t 15),(136,v136),(137,(ptr l137 (o137+0))),(138,v138),(139,v139)]) g n)) (
Qax C K J I_l3 (puts t [(128,t 15),(129,t 14),(130,v130),(131,v131)]) g n)
def Zp (C:CT) (K:Cont) (J:Qj) (I_l3:Qj) (t:Env) (g:G) (n:Nat):Prop:=
lfp (ZaD C K J I_l3) (puts t [(15,.int .i64 0)]) g n
def X1 (C:CT) (K:Cont) (J:Qj) (t:Env) (g:G) (n:Nat):Prop:=
J t g n
def Zaz (C:CT) (K:Cont) (J:Qj) (I_l3:Qj) (t:Env) (g:G) (n:Nat):Prop:=
Jb .int .lss (t 13) (.int .i64 2000) fun v93=>
Qa v93 (
C Qaj [t 9] g n fun v96 g13 n96=>
Qa v96 (
C Qo [t 9,t 5] g13 n96 fun v108 g14 n108=>
Jaw (t 1) fun v111=>
Jb .int .geq (t 13) v111 fun v112=>
Qa v112 (
Xf (reps 0 [.int .i64 0,.int .i64 0,.int .i64 0,.int .i64 0,.int .u64 0]) [] fun c121=>
Zq c121 .exact g14 n108 fun l121 g15 n121=>
Zt (.slice (some ⟨l121,0,none⟩) 0 0) v108 5 40 g15 n121 fun v123 g16 n123=>
C Jo [t 9,t 5] g16 n123 fun v126 g17 n126=>
Zt v123 v126 5 40 g17 n126 fun v127 g18 n127=>
Zp C K J I_l3 (puts t [(92,t 13),(93,v93),(94,.bool true),(95,t 9),(96,v96),(97,.bool true),(98,undef),(99,undef),(100,undef),(101,undef),(102,.bool true),(103,.bool true),(106,t 9),(107,t 5),(108,v108),(14,v108),(109,t 13),(110,t 1),(111,v111),(112,v112),(113,.bool true),(114,undef),(115,undef),(116,undef),(117,undef),(118,undef),(119,undef),(120,.bool true),(121,(.slice (some ⟨l121,0,none⟩) 0 0)),(122,v108),(123,v123),(124,t 9),(125,t 5),(126,v126),(127,v127),(14,v127)]) g18 n127) (
Xd (t 1) (t 13) 1 fun v116=>
Qd v116 fun l117 o117=>
kLd g14 l117 o117 fun v117=>
Jb .int .rem v117 (.int .u8 2) fun v118=>
Jb .int .eql v118 (.int .u8 0) fun v119=>
Qa v119 (
Xf (reps 0 [.int .i64 0,.int .i64 0,.int .i64 0,.int .i64 0,.int .u64 0]) [] fun c121=>
Zq c121 .exact g14 n108 fun l121 g28 n121=>
Zt (.slice (some ⟨l121,0,none⟩) 0 0) v108 5 40 g28 n121 fun v123 g29 n123=>
C Jo [t 9,t 5] g29 n123 fun v126 g30 n126=>
Zt v123 v126 5 40 g30 n126 fun v127 g31 n127=>
Zp C K J I_l3 (puts t [(92,t 13),(93,v93),(94,.bool true),(95,t 9),(96,v96),(97,.bool true),(98,undef),(99,undef),(100,undef),(101,undef),(102,.bool true),(103,.bool true),(106,t 9),(107,t 5),(108,v108),(14,v108),(109,t 13),(110,t 1),(111,v111),(112,v112),(113,.bool false),(114,t 1),(115,t 13),(116,v116),(117,v117),(118,v118),(119,v119),(120,v119),(121,(.slice (some ⟨l121,0,none⟩) 0 0)),(122,v108),(123,v123),(124,t 9),(125,t 5),(126,v126),(127,v127),(14,v127)]) g31 n127) (
Zp C K J I_l3 (puts t [(92,t 13),(93,v93),(94,.bool true),(95,t 9),(96,v96),(97,.bool true),(98,undef),(99,undef),(100,undef),(101,undef),(102,.bool true),(103,.bool true),(106,t 9),(107,t 5),(108,v108),(14,v108),(109,t 13),(110,t 1),(111,v111),(112,v112),(113,.bool false),(114,t 1),(115,t 13),(116,v116),(117,v117),(118,v118),(119,v119),(120,v119)]) g14 n108))) (
C J7 [t 9] g13 n96 fun v99 g32 n99=>
Jaw v99 fun v100=>
Jb .int .gtr v100 (.int .i64 0) fun v101=>
Qa v101 (
C Qo [t 9,t 5] g32 n99 fun v108 g33 n108=>
Jaw (t 1) fun v111=>
Jb .int .geq (t 13) v111 fun v112=>
Qa v112 (
Xf (reps 0 [.int .i64 0,.int .i64 0,.int .i64 0,.int .i64 0,.int .u64 0]) [] fun c121=>
Zq c121 .exact g33 n108 fun l121 g34 n121=>
Zt (.slice (some ⟨l121,0,none⟩) 0 0) v108 5 40 g34 n121 fun v123 g35 n123=>
C Jo [t 9,t 5] g35 n123 fun v126 g36 n126=>
Zt v123 v126 5 40 g36 n126 fun v127 g37 n127=>
Zp C K J I_l3 (puts t [(92,t 13),(93,v93),(94,.bool true),(95,t 9),(96,v96),(97,.bool false),(98,t 9),(99,v99),(100,v100),(101,v101),(102,v101),(103,v101),(106,t 9),(107,t 5),(108,v108),(14,v108),(109,t 13),(110,t 1),(111,v111),(112,v112),(113,.bool true),(114,undef),(115,undef),(116,undef),(117,undef),(118,undef),(119,undef),(120,.bool true),(121,(.slice (some ⟨l121,0,none⟩) 0 0)),(122,v108),(123,v123),(124,t 9),(125,t 5),(126,v126),(127,v127),(14,v127)]) g37 n127) (
Xd (t 1) (t 13) 1 fun v116=>
Qd v116 fun l117 o117=>
kLd g33 l117 o117 fun v117=>
Jb .int .rem v117 (.int .u8 2) fun v118=>
Jb .int .eql v118 (.int .u8 0) fun v119=>
Qa v119 (
Xf (reps 0 [.int .i64 0,.int .i64 0,.int .i64 0,.int .i64 0,.int .u64 0]) [] fun c121=>
Zq c121 .exact g33 n108 fun l121 g38 n121=>
Zt (.slice (some ⟨l121,0,none⟩) 0 0) v108 5 40 g38 n121 fun v123 g39 n123=>
C Jo [t 9,t 5] g39 n123 fun v126 g40 n126=>
Zt v123 v126 5 40 g40 n126 fun v127 g41 n127=>
Zp C K J I_l3 (puts t [(92,t 13),(93,v93),(94,.bool true),(95,t 9),(96,v96),(97,.bool false),(98,t 9),(99,v99),(100,v100),(101,v101),(102,v101),(103,v101),(106,t 9),(107,t 5),(108,v108),(14,v108),(109,t 13),(110,t 1),(111,v111),(112,v112),(113,.bool false),(114,t 1),(115,t 13),(116,v116),(117,v117),(118,v118),(119,v119),(120,v119),(121,(.slice (some ⟨l121,0,none⟩) 0 0)),(122,v108),(123,v123),(124,t 9),(125,t 5),(126,v126),(127,v127),(14,v127)]) g41 n127) (
Zp C K J I_l3 (puts t [(92,t 13),(93,v93),(94,.bool true),(95,t 9),(96,v96),(97,.bool false),(98,t 9),(99,v99),(100,v100),(101,v101),(102,v101),(103,v101),(106,t 9),(107,t 5),(108,v108),(14,v108),(109,t 13),(110,t 1),(111,v111),(112,v112),(113,.bool false),(114,t 1),(115,t 13),(116,v116),(117,v117),(118,v118),(119,v119),(120,v119)]) g33 n108))) (
X1 C K J (puts t [(92,t 13),(93,v93),(94,.bool true),(95,t 9),(96,v96),(97,.bool false),(98,t 9),(99,v99),(100,v100),(101,v101),(102,v101),(103,v101)]) g32 n99))) (
X1 C K J (puts t [(92,t 13),(93,v93),(94,.bool false),(95,undef),(96,undef),(97,undef),(98,undef),(99,undef),(100,undef),(101,undef),(102,undef),(103,.bool false)]) g n)
def Qav (C:CT) (K:Cont) (I_l11:Qj) (t:Env) (g:G) (n:Nat):Prop:=
Jaw (t 0) fun v186=>
Jb .int .lss (t 18) v186 fun v187=>
Qa v187 (
Xd (t 11) (t 18) 1 fun v192=>
Qd v192 fun l193 o193=>
kLd g l193 o193 fun v193=>
Xd (t 0) (t 18) 1 fun v196=>
Qd v196 fun l197 o197=>
kLd g l197 o197 fun v197=>
Qao .u64 v197 fun v198=>
Jb .int .add v198 (.int .u64 1) fun v199=>
Jb .int .neq v193 v199 fun v200=>
Qa v200 (
Jc K (.bool false) g n) (
Xd (t 12) (t 18) 1 fun v204=>
Qd v204 fun l205 o205=>
kLd g l205 o205 fun v205=>
Xd (t 0) (t 18) 1 fun v208=>
Qd v208 fun l209 o209=>
kLd g l209 o209 fun v209=>
Qao .u64 v209 fun v210=>
Jb .int .add v210 (.int .u64 1) fun v211=>
Jb .int .neq v205 v211 fun v212=>
Qa v212 (
Jc K (.bool false) g n) (
Jb .int .add (t 18) (.int .i64 1) fun v189=>
I_l11 (puts t [(184,t 18),(185,t 0),(186,v186),(187,v187),(190,t 11),(191,t 18),(192,v192),(193,v193),(194,t 0),(195,t 18),(196,v196),(197,v197),(198,v198),(199,v199),(200,v200),(201,.bool false),(202,t 12),(203,t 18),(204,v204),(205,v205),(206,t 0),(207,t 18),(208,v208),(209,v209),(210,v210),(211,v211),(212,v212),(213,v212),(188,t 18),(189,v189),(18,v189)]) g n))) (
C Jr [] g n fun v214 g42 n214=>
Jc K v214 g42 n214)
def Qg (C:CT) (K:Cont) (t:Env) (g:G) (n:Nat):Prop:=
Jaw (t 11) fun v173=>
Jaw (t 0) fun v175=>
Jb .int .neq v173 v175 fun v176=>
Qa v176 (
Jc K (.bool false) g n) (
Jaw (t 12) fun v179=>
Jaw (t 0) fun v181=>
Jb .int .neq v179 v181 fun v182=>
Qa v182 (
Jc K (.bool false) g n) (
lfp (Qav C K) (puts t [(172,t 11),(173,v173),(174,t 0),(175,v175),(176,v176),(177,.bool false),(178,t 12),(179,v179),(180,t 0),(181,v181),(182,v182),(183,v182),(18,.int .i64 0)]) g n))
def Qp (C:CT) (K:Cont) (J:Qj) (t:Env) (g:G) (n:Nat):Prop:=
lfp (Zaz C K J) (puts t [(13,.int .i64 0)]) g n
def Jt (C:CT) (K:Cont) (J:Qj) (t:Env) (g:G) (n:Nat):Prop:=
J (puts t [(11,.slice none 0 0),(12,.slice none 0 0)]) g n
def Qz (C:CT) (K:Cont) (J:Qj) (t:Env) (g:G) (n:Nat):Prop:=
Jb .int .neq (t 10) (.int .i64 0) fun v87=>
Qa v87 (
Jc K (.bool false) g n) (
Jb .ptr .eql (t 9) (.pointer none) fun v90=>
Qa v90 (
Jc K (.bool false) g n) (
J (puts t [(86,t 10),(87,v87),(88,.bool false),(89,t 9),(90,v90),(91,v90)]) g n))
def QH (C:CT) (K:Cont) (J:Qj) (t:Env) (g:G) (n:Nat):Prop:=
Xf [.int .i64 0,.int .i64 0,.int .i64 0,.int .i64 0,.int .i64 0] [(0,none,.int .i64 22)] fun c77=>
Xf (reps 1 [.int .i64 0,.int .i64 0,.int .i64 0,.int .i64 0,.int .i64 0]) [(0,some 5,.agg c77.toArray)] fun c78=>
Zq c78 .exact g n fun l78 g9 n78=>
Zt (t 7) (.slice (some ⟨l78,0,none⟩) 1 1) 5 40 g9 n78 fun v79 g10 n79=>
C JX [v79] g10 n79 fun v82 g11 n82=>
C Zbk [.int .i64 0,.int .i64 2,v82] g11 n82 fun v83 g12 n83=>
Xc v83 0 fun v84=>
Xc v83 1 fun v85=>
J (puts t [(76,t 7),(77,.agg c77.toArray),(78,(.slice (some ⟨l78,0,none⟩) 1 1)),(79,v79),(7,v79),(81,v79),(82,v82),(83,v83),(80,v83),(84,v84),(85,v85),(9,v84),(10,v85)]) g12 n83
def Qac (C:CT) (a0 a1:Value) (J:Qj) (g:G) (n:Nat) (K:Cont):Prop:=
C XW [] g n fun v20 g1 n20=>
C Zbi [v20,.slice none 0 0] g1 n20 fun v21 g2 n21=>
Xc v21 0 fun v22=>
Xc v21 1 fun v23=>
Jb .int .neq v23 (.int .i64 0) fun v25=>
Qa v25 (
Jb .int .eql v23 (.int .i64 0) fun v41=>
Qa v41 (
Jb .ptr .neq v22 (.pointer none) fun v44=>
Qa v44 (
C Jr [] g2 n21 fun v47 g3 n47=>
Jc K v47 g3 n47) (
Jc K (.bool false) g2 n21)) (
Jc K (.bool false) g2 n21)) (
Jb .ptr .eql v22 (.pointer none) fun v28=>
Qa v28 (
Jb .int .eql v23 (.int .i64 0) fun v41=>
Qa v41 (
Jb .ptr .neq v22 (.pointer none) fun v44=>
Qa v44 (
C Jr [] g2 n21 fun v47 g4 n47=>
Jc K v47 g4 n47) (
Jc K (.bool false) g2 n21)) (
Jc K (.bool false) g2 n21)) (
Jaw a0 fun v32=>
Jb .int .gtr v32 (.int .i64 20) fun v33=>
Qa v33 (
Jb .int .eql v23 (.int .i64 0) fun v41=>
Qa v41 (
Jb .ptr .neq v22 (.pointer none) fun v44=>
Qa v44 (
C Jr [] g2 n21 fun v47 g5 n47=>
Jc K v47 g5 n47) (
Jc K (.bool false) g2 n21)) (
Jc K (.bool false) g2 n21)) (
Jaw a1 fun v37=>
Jb .int .gtr v37 (.int .i64 60) fun v38=>
Qa v38 (
Jb .int .eql v23 (.int .i64 0) fun v41=>
Qa v41 (
Jb .ptr .neq v22 (.pointer none) fun v44=>
Qa v44 (
C Jr [] g2 n21 fun v47 g6 n47=>
Jc K v47 g6 n47) (
Jc K (.bool false) g2 n21)) (
Jc K (.bool false) g2 n21)) (
lfp (QaD C K J) (puts (Jj [a0,a1]) [(4,.bool false),(20,v20),(21,v21),(19,v21),(22,v22),(23,v23),(5,v22),(6,v23),(24,v23),(25,v25),(26,.bool false),(27,v22),(28,v28),(29,v28),(30,.bool false),(31,a0),(32,v32),(33,v33),(34,v33),(35,.bool false),(36,a1),(37,v37),(38,v38),(39,v38),(7,.slice none 0 0),(8,.int .i64 0)]) g2 n21))))
def Jam (C:CT) (a0 a1:Value) (g:G) (n:Nat) (K:Cont):Prop:=Qac C a0 a1 (QH C K (Qz C K (Jt C K (Qp C K (Qg C K))))) g n K
theorem JaN (C:CT) (t:Env) (g:G) (n:Nat) (K:Cont):Qg C K t g n=XQ Tryz.prog C [1,1,1,1,1,1,1,1,1,1] Qe K t g n:=by kernel_rfl
theorem ZaS (C:CT) (K:Cont):Qg C K=XQ Tryz.prog C [1,1,1,1,1,1,1,1,1,1] Qe K:=funext fun t=>funext fun g=>funext fun n=>JaN C t g n K
theorem XaL (C:CT) (J:Qj) (t:Env) (g:G) (n:Nat) (K:Cont):Qp C K J t g n=Xab Tryz.prog C [1,1,1,1,1,1,1,1,1] [1] J Qe K t g n:=by kernel_rfl
theorem ZaT (C:CT) (K:Cont):Qp C K (Qg C K)=XQ Tryz.prog C [1,1,1,1,1,1,1,1,1] Qe K:=by
 rw [ZaS]
 exact (funext fun t=>funext fun g=>funext fun n=>XaL C _ t g n K).trans (ZU Tryz.prog C [1,1,1,1,1,1,1,1,1] [1] Qe K)
theorem XaN (C:CT) (J:Qj) (t:Env) (g:G) (n:Nat) (K:Cont):Jt C K J t g n=Xab Tryz.prog C [1,1,1,1,1,1,1,1] [1] J Qe K t g n:=by kernel_rfl
theorem JaQ (C:CT) (K:Cont):Jt C K (Qp C K (Qg C K))=XQ Tryz.prog C [1,1,1,1,1,1,1,1] Qe K:=by
 rw [ZaT]
 exact (funext fun t=>funext fun g=>funext fun n=>XaN C _ t g n K).trans (ZU Tryz.prog C [1,1,1,1,1,1,1,1] [1] Qe K)
theorem QaN (C:CT) (J:Qj) (t:Env) (g:G) (n:Nat) (K:Cont):Qz C K J t g n=Xab Tryz.prog C [1,1,1,1,1,1,1] [1] J Qe K t g n:=by kernel_rfl
theorem XaP (C:CT) (K:Cont):Qz C K (Jt C K (Qp C K (Qg C K)))=XQ Tryz.prog C [1,1,1,1,1,1,1] Qe K:=by
 rw [JaQ]
 exact (funext fun t=>funext fun g=>funext fun n=>QaN C _ t g n K).trans (ZU Tryz.prog C [1,1,1,1,1,1,1] [1] Qe K)
theorem ZaO (C:CT) (J:Qj) (t:Env) (g:G) (n:Nat) (K:Cont):QH C K J t g n=Xab Tryz.prog C [1,1,1,1,1] [1,1] J Qe K t g n:=by kernel_rfl
theorem JaR (C:CT) (K:Cont):QH C K (Qz C K (Jt C K (Qp C K (Qg C K))))=XQ Tryz.prog C [1,1,1,1,1] Qe K:=by
 rw [XaP]
 exact (funext fun t=>funext fun g=>funext fun n=>ZaO C _ t g n K).trans (ZU Tryz.prog C [1,1,1,1,1] [1,1] Qe K)
theorem XaQ (C:CT) (a0 a1:Value) (J:Qj) (g:G) (n:Nat) (K:Cont):Qac C a0 a1 J g n K=Xbl Tryz.prog C [1,1,1,1,1] J Qe [a0,a1] g n K:=by kernel_rfl
theorem Qbp (C:CT) (a0 a1:Value) (g:G) (n:Nat) (K:Cont):Jam C a0 a1 g n K=Je Tryz.prog C Qe [a0,a1] g n K:=by
 unfold Jam
 rw [XaQ,JaR]
 exact Xa0 Tryz.prog C [1,1,1,1,1] Qe [a0,a1] g n K
def Zah (C:CT) (K:Cont) (t:Env) (g:G) (n:Nat):Prop:=
Qd (t 2) fun l46 o46=>
kLd g l46 (o46+5) fun v47=>
C Xcr [t 6,v47] g n fun v48 g6 n48=>
Xc v48 0 fun v49=>
Xc v48 1 fun v50=>
Jb .int .neq v50 (.int .i64 0) fun v52=>
Qa v52 (
Jc K (.tuple #[.pointer none,v50]) g6 n48) (
Qd (t 2) fun l54 o54=>
Zo g6 l54 o54 7 fun c54=>
Xf [.int .i64 0,.int .i64 0,.int .i64 0,.int .i64 0,.int .i64 0,.int .i64 0,.int .i64 0,.slice none 0 0,.slice none 0 0,.pointer none,.int .i64 0] [(0,some 7,.agg c54.toArray),(9,none,v49)] fun c56=>
Zn (.agg c56.toArray) fun c57=>
Zq c57 .exact g6 n48 fun l57 g7 n57=>
C Jal [ptr l57 0] g7 n57 fun v59 g8 n59=>
Jc K (.tuple #[ptr l57 0,.int .i64 0]) g8 n59)
def JeG (C:CT) (a0 a1:Value) (g:G) (n:Nat) (K:Cont):Prop:=
Zn a0 fun c2=>
Zq c2 .exact g n fun l2 g1 n2=>
Zo g1 l2 0 7 fun c10=>
C ZbH [.agg c10.toArray] g1 n2 fun v11 g2 n11=>
kUn .not v11 fun v12=>
Qa v12 (
Jc K (.tuple #[.pointer none,.int .i64 1]) g2 n11) (
Jaw a1 fun v15=>
Jb .int .neq v15 (.int .i64 0) fun v16=>
Qa v16 (
Jaw a1 fun v19=>
kLd g2 l2 (0+1) fun v21=>
Jb .int .neq v19 v21 fun v22=>
Qa v22 (
Jc K (.tuple #[.pointer none,.int .i64 1]) g2 n11) (
kLd g2 l2 (0+1) fun v27=>
kLd g2 l2 (0+2) fun v29=>
C Jbc [v27,v29] g2 n11 fun v30 g3 n30=>
Xc v30 0 fun v31=>
Xc v30 1 fun v32=>
Jb .int .neq v32 (.int .i64 0) fun v34=>
Qa v34 (
Jc K (.tuple #[.pointer none,v32]) g3 n30) (
Jaw a1 fun v37=>
Jb .int .gtr v37 (.int .i64 0) fun v38=>
Qa v38 (
C QU [v31,a1] g3 n30 fun v41 g4 n41=>
C Zaf [v31] g4 n41 fun v43 g5 n43=>
Zah C K (puts (Jj [a0,a1]) [(2,ptr l2 0),(4,.pointer none),(5,.int .i64 0),(10,.agg c10.toArray),(11,v11),(12,v12),(13,.bool false),(14,a1),(15,v15),(16,v16),(17,.bool true),(18,a1),(19,v19),(20,(ptr l2 (0+1))),(21,v21),(22,v22),(23,v22),(24,v22),(26,(ptr l2 (0+1))),(27,v27),(28,(ptr l2 (0+2))),(29,v29),(30,v30),(25,v30),(31,v31),(32,v32),(6,v31),(7,v32),(33,v32),(34,v34),(36,a1),(37,v37),(38,v38),(39,v31),(40,a1),(41,v41),(42,v31),(43,v43)]) g5 n43) (
Zah C K (puts (Jj [a0,a1]) [(2,ptr l2 0),(4,.pointer none),(5,.int .i64 0),(10,.agg c10.toArray),(11,v11),(12,v12),(13,.bool false),(14,a1),(15,v15),(16,v16),(17,.bool true),(18,a1),(19,v19),(20,(ptr l2 (0+1))),(21,v21),(22,v22),(23,v22),(24,v22),(26,(ptr l2 (0+1))),(27,v27),(28,(ptr l2 (0+2))),(29,v29),(30,v30),(25,v30),(31,v31),(32,v32),(6,v31),(7,v32),(33,v32),(34,v34),(36,a1),(37,v37),(38,v38)]) g3 n30)))) (
kLd g2 l2 (0+1) fun v27=>
kLd g2 l2 (0+2) fun v29=>
C Jbc [v27,v29] g2 n11 fun v30 g9 n30=>
Xc v30 0 fun v31=>
Xc v30 1 fun v32=>
Jb .int .neq v32 (.int .i64 0) fun v34=>
Qa v34 (
Jc K (.tuple #[.pointer none,v32]) g9 n30) (
Jaw a1 fun v37=>
Jb .int .gtr v37 (.int .i64 0) fun v38=>
Qa v38 (
C QU [v31,a1] g9 n30 fun v41 g10 n41=>
C Zaf [v31] g10 n41 fun v43 g11 n43=>
Zah C K (puts (Jj [a0,a1]) [(2,ptr l2 0),(4,.pointer none),(5,.int .i64 0),(10,.agg c10.toArray),(11,v11),(12,v12),(13,.bool false),(14,a1),(15,v15),(16,v16),(17,.bool false),(18,undef),(19,undef),(20,undef),(21,undef),(22,undef),(23,.bool false),(24,.bool false),(26,(ptr l2 (0+1))),(27,v27),(28,(ptr l2 (0+2))),(29,v29),(30,v30),(25,v30),(31,v31),(32,v32),(6,v31),(7,v32),(33,v32),(34,v34),(36,a1),(37,v37),(38,v38),(39,v31),(40,a1),(41,v41),(42,v31),(43,v43)]) g11 n43) (
Zah C K (puts (Jj [a0,a1]) [(2,ptr l2 0),(4,.pointer none),(5,.int .i64 0),(10,.agg c10.toArray),(11,v11),(12,v12),(13,.bool false),(14,a1),(15,v15),(16,v16),(17,.bool false),(18,undef),(19,undef),(20,undef),(21,undef),(22,undef),(23,.bool false),(24,.bool false),(26,(ptr l2 (0+1))),(27,v27),(28,(ptr l2 (0+2))),(29,v29),(30,v30),(25,v30),(31,v31),(32,v32),(6,v31),(7,v32),(33,v32),(34,v34),(36,a1),(37,v37),(38,v38)]) g9 n30))))
theorem Xej (C:CT) (a0 a1:Value) (g:G) (n:Nat) (K:Cont):JeG C a0 a1 g n K=Je Tryz.prog C Zbi [a0,a1] g n K:=by kernel_rfl
def Qa2 (C:CT) (g:G) (n:Nat) (K:Cont):Prop:=
Zq [.int .i64 0,.int .i64 0,.int .i64 0,.int .i64 0,.int .i64 0,.int .i64 0,.int .i64 0] .exact g n fun l0 g1 n0=>
Xf [.int .i64 0,.int .i64 0,.int .i64 0,.int .i64 0,.int .i64 0,.int .i64 0,.int .i64 0] [(0,none,.int .i64 2),(1,none,.int .i64 6),(2,none,.int .i64 1),(3,none,.int .i64 1),(4,none,.int .i64 2),(5,none,.int .i64 2),(6,none,.int .i64 2)] fun c1=>
Zn (.agg c1.toArray) fun cg2=>
cg2.length=7∧Xu g1 l0 0 cg2 fun g2=>
Zo g2 l0 0 7 fun r0=>
Jc K (.agg r0.toArray) g2 n0
theorem JbJ (C:CT) (g:G) (n:Nat) (K:Cont):Qa2 C g n K=Je Tryz.prog C XW [] g n K:=by kernel_rfl
def ZcX (C:CT) (K:Cont) (t:Env) (g:G) (n:Nat):Prop:=
Jc K (.tuple #[t 10,.int .i64 0]) g n
def ZcW (C:CT) (K:Cont) (I_l1:Qj) (t:Env) (g:G) (n:Nat):Prop:=
Jb .int .lss (t 39) (t 38) fun v40=>
Qa v40 (
Xd (t 37) (t 39) 1 fun v42=>
Qd v42 fun l43 o43=>
kLd g l43 o43 fun v43=>
Jg (t 10) fun v45=>
Qd v45 fun l46 o46=>
kLd g l46 (o46+10) fun v47=>
Xd v47 (t 39) 10 fun v50=>
Qd v50 fun l51 o51=>
kSt g l51 (o51+3) v43 fun g4=>
Jb .int .add (t 39) (.int .i64 1) fun v52=>
I_l1 (puts t [(40,v40),(41,t 39),(42,v42),(43,v43),(11,t 39),(12,v43),(44,t 10),(45,v45),(46,(ptr l46 (o46+10))),(47,v47),(48,t 39),(49,v43),(50,v50),(51,(ptr l51 (o51+3))),(52,v52),(39,v52)]) g4 n) (
ZcX C K (puts t [(40,v40)]) g n)
def ZeO (C:CT) (a0 a1 a2:Value) (g:G) (n:Nat) (K:Cont):Prop:=
Jb .int .lss a0 (.int .i64 0) fun v14=>
Qa v14 (
Jc K (.tuple #[.pointer none,.int .i64 1]) g n) (
Jb .int .geq a0 (.int .i64 8) fun v17=>
Qa v17 (
Jc K (.tuple #[.pointer none,.int .i64 1]) g n) (
C Zb2 [a1] g n fun v21 g1 n21=>
Xc v21 0 fun v22=>
Xc v21 1 fun v23=>
Jb .int .neq v23 (.int .i64 0) fun v25=>
Qa v25 (
Jc K (.tuple #[.pointer none,v23]) g1 n21) (
Jaw a2 fun v28=>
Jb .int .gtr v28 (.int .i64 4096) fun v29=>
Qa v29 (
Jc K (.tuple #[.pointer none,.int .i64 3]) g1 n21) (
Jaw a2 fun v33=>
JbS v33 v33 [.int .u32 0,.int .i32 0,.int .u32 0,.int .u64 0,.int .i64 0,.int .i64 0,.int .i64 0,.int .i64 0,.int .i64 0,.bool false] 72 g1 n21 fun v34 g2 n34=>
Xf [.int .i64 0,.int .u64 0,.int .u64 0,.int .u64 0,.int .u64 0,.int .u64 0,.int .u64 0,.int .u64 0,.int .u64 0,.int .i64 0,.slice none 0 0,.pointer none,.int .i64 0,.bool false] [(0,none,a0),(11,none,v22),(13,none,.bool true),(10,none,v34)] fun c35=>
Zn (.agg c35.toArray) fun c36=>
Zq c36 .exact g2 n34 fun l36 g3 n36=>
Jaw a2 fun v38=>
lfp (ZcW C K) (puts (Jj [a0,a1,a2]) [(6,.pointer none),(7,.int .i64 0),(13,a0),(14,v14),(15,.bool false),(16,a0),(17,v17),(18,v17),(20,a1),(21,v21),(19,v21),(22,v22),(23,v23),(8,v22),(9,v23),(24,v23),(25,v25),(27,a2),(28,v28),(29,v29),(30,a0),(31,v22),(32,a2),(33,v33),(34,v34),(35,.agg c35.toArray),(36,ptr l36 0),(10,ptr l36 0),(37,a2),(38,v38),(39,.int .i64 0)]) g3 n36))))
theorem Jen (C:CT) (a0 a1 a2:Value) (g:G) (n:Nat) (K:Cont):ZeO C a0 a1 a2 g n K=Je Tryz.prog C Zbk [a0,a1,a2] g n K:=by kernel_rfl
def JaO (C:CT) (K:Cont) (I_l1:Qj) (t:Env) (g:G) (n:Nat):Prop:=
Jaw (t 0) fun v9=>
Jb .int .lss (t 4) v9 fun v10=>
Qa v10 (
Xd (t 0) (t 4) 5 fun v16=>
Qd v16 fun l17 o17=>
Zo g l17 o17 5 fun c17=>
C Zac [.agg c17.toArray] g n fun v18 g1 n18=>
Xc v18 0 fun v19=>
Xc v18 1 fun v20=>
Xf (reps 1 [.int .u64 0]) [(0,none,v19)] fun c23=>
Zq c23 .exact g1 n18 fun l23 g2 n23=>
Zt (t 3) (.slice (some ⟨l23,0,none⟩) 1 1) 1 8 g2 n23 fun v24 g3 n24=>
Jb .int .add (t 4) (.int .i64 1) fun v12=>
I_l1 (puts t [(7,t 4),(8,t 0),(9,v9),(10,v10),(14,t 0),(15,t 4),(16,v16),(17,.agg c17.toArray),(18,v18),(13,v18),(19,v19),(20,v20),(5,v19),(6,v20),(21,t 3),(22,v19),(23,(.slice (some ⟨l23,0,none⟩) 1 1)),(24,v24),(3,v24),(11,t 4),(12,v12),(4,v12)]) g3 n24) (
Jc K (t 3) g n)
def Xbd (C:CT) (a0:Value) (g:G) (n:Nat) (K:Cont):Prop:=
lfp (JaO C K) (puts (Jj [a0]) [(2,.slice none 0 0),(3,.slice none 0 0),(4,.int .i64 0)]) g n
theorem ZbT (C:CT) (a0:Value) (g:G) (n:Nat) (K:Cont):Xbd C a0 g n K=Je Tryz.prog C JX [a0] g n K:=by kernel_rfl
def ZO (C:CT) (K:Cont) (t:Env) (g:G) (n:Nat):Prop:=
kUn .not (t 6) fun v52=>
Qa v52 (
C Qak [t 5] g n fun v54 g4 n54=>
Jg (t 5) fun v56=>
Qd v56 fun l57 o57=>
kLd g4 l57 (o57+7) fun v58=>
Jc K v58 g4 n54) (
C XaX [t 5] g n fun v60 g5 n60=>
Jg (t 5) fun v62=>
Qd v62 fun l63 o63=>
kLd g5 l63 (o63+7) fun v64=>
Jc K v64 g5 n60)
def ZbZ (C:CT) (a0 a1:Value) (g:G) (n:Nat) (K:Cont):Prop:=
Jb .ptr .eql a0 (.pointer none) fun v8=>
Qa v8 (
Jc K (.slice none 0 0) g n) (
Jb .ptr .eql a1 (.pointer none) fun v11=>
Qa v11 (
Jc K (.slice none 0 0) g n) (
Jg a0 fun v15=>
Qd v15 fun l16 o16=>
kLd g l16 (o16+13) fun v17=>
kUn .not v17 fun v18=>
Qa v18 (
Jc K (.slice none 0 0) g n) (
Xf [.pointer none,.pointer none,.int .i64 0,.int .i64 0,.int .i64 0,.int .i64 0,.int .i64 0,.slice none 0 0] [(0,none,a0),(1,none,a1)] fun c22=>
Zn (.agg c22.toArray) fun c23=>
Zq c23 .exact g n fun l23 g1 n23=>
Jg a0 fun v25=>
Qd v25 fun l26 o26=>
kLd g1 l26 (o26+9) fun v27=>
Jg a0 fun v29=>
Qd v29 fun l30 o30=>
kLd g1 l30 (o30+10) fun v31=>
Jaw v31 fun v32=>
Jb .int .lss v27 v32 fun v33=>
Qa v33 (
Jg a0 fun v38=>
Qd v38 fun l39 o39=>
kLd g1 l39 (o39+10) fun v40=>
Jg a0 fun v42=>
Qd v42 fun l43 o43=>
kLd g1 l43 (o43+9) fun v44=>
Xd v40 v44 10 fun v45=>
C ZaN [v45] g1 n23 fun v46 g2 n46=>
Xc v46 0 fun v47=>
Xc v46 1 fun v48=>
Zn v47 fun cg3=>
cg3.length=5∧Xu g2 l23 (0+2) cg3 fun g3=>
ZO C K (puts (Jj [a0,a1]) [(4,.slice none 0 0),(7,a0),(8,v8),(9,.bool false),(10,a1),(11,v11),(12,v11),(13,.bool false),(14,a0),(15,v15),(16,(ptr l16 (o16+13))),(17,v17),(18,v18),(19,v18),(20,a0),(21,a1),(22,.agg c22.toArray),(23,ptr l23 0),(5,ptr l23 0),(24,a0),(25,v25),(26,(ptr l26 (o26+9))),(27,v27),(28,a0),(29,v29),(30,(ptr l30 (o30+10))),(31,v31),(32,v32),(33,v33),(6,v33),(34,v33),(36,ptr l23 0),(37,a0),(38,v38),(39,(ptr l39 (o39+10))),(40,v40),(41,a0),(42,v42),(43,(ptr l43 (o43+9))),(44,v44),(45,v45),(46,v46),(35,v46),(47,v47),(48,v48),(49,ptr l23 0),(50,(ptr l23 (0+2))),(6,v48)]) g3 n46) (
ZO C K (puts (Jj [a0,a1]) [(4,.slice none 0 0),(7,a0),(8,v8),(9,.bool false),(10,a1),(11,v11),(12,v11),(13,.bool false),(14,a0),(15,v15),(16,(ptr l16 (o16+13))),(17,v17),(18,v18),(19,v18),(20,a0),(21,a1),(22,.agg c22.toArray),(23,ptr l23 0),(5,ptr l23 0),(24,a0),(25,v25),(26,(ptr l26 (o26+9))),(27,v27),(28,a0),(29,v29),(30,(ptr l30 (o30+10))),(31,v31),(32,v32),(33,v33),(6,v33),(34,v33)]) g1 n23))))
theorem Zcw (C:CT) (a0 a1:Value) (g:G) (n:Nat) (K:Cont):ZbZ C a0 a1 g n K=Je Tryz.prog C Qo [a0,a1] g n K:=by kernel_rfl
def Qbx (C:CT) (a0:Value) (g:G) (n:Nat) (K:Cont):Prop:=
Jb .ptr .eql a0 (.pointer none) fun v4=>
Qa v4 (
Jc K (.slice none 0 0) g n) (
Jg a0 fun v6=>
Qd v6 fun l7 o7=>
kLd g l7 (o7+11) fun v8=>
C ZaE [v8] g n fun v9 g1 n9=>
Jc K v9 g1 n9)
theorem JbZ (C:CT) (a0:Value) (g:G) (n:Nat) (K:Cont):Qbx C a0 g n K=Je Tryz.prog C J7 [a0] g n K:=by kernel_rfl
def Xae (C:CT) (K:Cont) (t:Env) (g:G) (n:Nat):Prop:=
Jg (t 7) fun v96=>
Qd v96 fun l97 o97=>
kLd g l97 (o97+7) fun v98=>
Jc K v98 g n
def Zl (C:CT) (K:Cont) (t:Env) (g:G) (n:Nat):Prop:=
Qa (t 8) (
Jg (t 0) fun v91=>
Qd v91 fun l92 o92=>
kLd g l92 (o92+11) fun v93=>
C QaB [v93] g n fun v94 g7 n94=>
Xae C K (puts t [(89,t 8),(90,t 0),(91,v91),(92,(ptr l92 (o92+11))),(93,v93),(94,v94)]) g7 n94) (
Xae C K (puts t [(89,t 8)]) g n)
def QbD (C:CT) (a0 a1:Value) (g:G) (n:Nat) (K:Cont):Prop:=
Jb .ptr .eql a0 (.pointer none) fun v10=>
Qa v10 (
Jc K (.slice none 0 0) g n) (
Jb .ptr .eql a1 (.pointer none) fun v13=>
Qa v13 (
Jc K (.slice none 0 0) g n) (
Jg a0 fun v17=>
Qd v17 fun l18 o18=>
kLd g l18 (o18+11) fun v19=>
C JF [v19] g n fun v20 g1 n20=>
Xc v20 0 fun v21=>
Xc v20 1 fun v22=>
Zq [.int .i64 0,.int .i64 0,.int .i64 0,.int .u64 0,.bool false] .exact g1 n20 fun l5 g2 n5=>
Zn v21 fun cg3=>
cg3.length=5∧Xu g2 l5 0 cg3 fun g3=>
kUn .not v22 fun v24=>
Qa v24 (
Jc K (.slice none 0 0) g3 n5) (
Xf [.pointer none,.pointer none,.int .i64 0,.int .i64 0,.int .i64 0,.int .i64 0,.int .i64 0,.slice none 0 0] [(0,none,a0),(1,none,a1)] fun c27=>
Zn (.agg c27.toArray) fun c28=>
Zq c28 .exact g3 n5 fun l28 g4 n28=>
kLd g4 l5 (0+0) fun v30=>
Jb .int .eql v30 (.int .i64 9) fun v55=>
Qa v55 (
Jg a0 fun v58=>
Qd v58 fun l59 o59=>
kLd g4 l59 (o59+0) fun v60=>
kLd g4 l5 (0+1) fun v62=>
kLd g4 l5 (0+2) fun v64=>
kLd g4 l5 (0+3) fun v66=>
C JZ [a1,v60,v62,v64,v66] g4 n28 fun v67 g5 n67=>
Qa v67 (
kLd g5 l5 (0+1) fun v71=>
kLd g5 l5 (0+2) fun v73=>
kLd g5 l5 (0+3) fun v75=>
C Ql [ptr l28 0,.int .i64 3,v71,v73,v75] g5 n67 fun v76 g6 n76=>
Zl C K (puts (Jj [a0,a1]) [(4,.slice none 0 0),(9,a0),(10,v10),(11,.bool false),(12,a1),(13,v13),(14,v13),(16,a0),(17,v17),(18,(ptr l18 (o18+11))),(19,v19),(20,v20),(15,v20),(21,v21),(22,v22),(5,ptr l5 0),(6,v22),(23,v22),(24,v24),(25,a0),(26,a1),(27,.agg c27.toArray),(28,ptr l28 0),(7,ptr l28 0),(8,.bool false),(29,(ptr l5 (0+0))),(30,v30),(55,v55),(54,v55),(56,a1),(57,a0),(58,v58),(59,(ptr l59 (o59+0))),(60,v60),(61,(ptr l5 (0+1))),(62,v62),(63,(ptr l5 (0+2))),(64,v64),(65,(ptr l5 (0+3))),(66,v66),(67,v67),(8,v67),(68,v67),(69,ptr l28 0),(70,(ptr l5 (0+1))),(71,v71),(72,(ptr l5 (0+2))),(73,v73),(74,(ptr l5 (0+3))),(75,v75),(76,v76)]) g6 n76) (
Zl C K (puts (Jj [a0,a1]) [(4,.slice none 0 0),(9,a0),(10,v10),(11,.bool false),(12,a1),(13,v13),(14,v13),(16,a0),(17,v17),(18,(ptr l18 (o18+11))),(19,v19),(20,v20),(15,v20),(21,v21),(22,v22),(5,ptr l5 0),(6,v22),(23,v22),(24,v24),(25,a0),(26,a1),(27,.agg c27.toArray),(28,ptr l28 0),(7,ptr l28 0),(8,.bool false),(29,(ptr l5 (0+0))),(30,v30),(55,v55),(54,v55),(56,a1),(57,a0),(58,v58),(59,(ptr l59 (o59+0))),(60,v60),(61,(ptr l5 (0+1))),(62,v62),(63,(ptr l5 (0+2))),(64,v64),(65,(ptr l5 (0+3))),(66,v66),(67,v67),(8,v67),(68,v67)]) g5 n67)) (
Jb .int .eql v30 (.int .i64 12) fun v78=>
Qa v78 (
kLd g4 l5 (0+1) fun v81=>
C JI [ptr l28 0,v81,.int .i64 4] g4 n28 fun v82 g8 n82=>
Zl C K (puts (Jj [a0,a1]) [(4,.slice none 0 0),(9,a0),(10,v10),(11,.bool false),(12,a1),(13,v13),(14,v13),(16,a0),(17,v17),(18,(ptr l18 (o18+11))),(19,v19),(20,v20),(15,v20),(21,v21),(22,v22),(5,ptr l5 0),(6,v22),(23,v22),(24,v24),(25,a0),(26,a1),(27,.agg c27.toArray),(28,ptr l28 0),(7,ptr l28 0),(8,.bool false),(29,(ptr l5 (0+0))),(30,v30),(55,v55),(54,v55),(78,v78),(77,v78),(79,ptr l28 0),(80,(ptr l5 (0+1))),(81,v81),(82,v82),(8,v82)]) g8 n82) (
Jb .int .eql v30 (.int .i64 13) fun v84=>
Qa v84 (
kLd g4 l5 (0+1) fun v87=>
C JI [ptr l28 0,v87,.int .i64 5] g4 n28 fun v88 g9 n88=>
Zl C K (puts (Jj [a0,a1]) [(4,.slice none 0 0),(9,a0),(10,v10),(11,.bool false),(12,a1),(13,v13),(14,v13),(16,a0),(17,v17),(18,(ptr l18 (o18+11))),(19,v19),(20,v20),(15,v20),(21,v21),(22,v22),(5,ptr l5 0),(6,v22),(23,v22),(24,v24),(25,a0),(26,a1),(27,.agg c27.toArray),(28,ptr l28 0),(7,ptr l28 0),(8,.bool false),(29,(ptr l5 (0+0))),(30,v30),(55,v55),(54,v55),(78,v78),(77,v78),(84,v84),(83,v84),(85,ptr l28 0),(86,(ptr l5 (0+1))),(87,v87),(88,v88),(8,v88)]) g9 n88) (
kLd g4 l5 (0+4) fun v32=>
Qa v32 (
Jg a0 fun v35=>
Qd v35 fun l36 o36=>
kLd g4 l36 (o36+12) fun v37=>
Jb .int .eql v37 (.int .i64 0) fun v38=>
kLd g4 l5 (0+4) fun v41=>
kUn .not v41 fun v42=>
Qa v42 (
kLd g4 l5 (0+1) fun v46=>
C JI [ptr l28 0,v46,.int .i64 5] g4 n28 fun v47 g10 n47=>
Qa v47 (
Jg a0 fun v50=>
Qd v50 fun l51 o51=>
kLd g10 l51 (o51+11) fun v52=>
C J6 [v52] g10 n47 fun v53 g11 n53=>
Zl C K (puts (Jj [a0,a1]) [(4,.slice none 0 0),(9,a0),(10,v10),(11,.bool false),(12,a1),(13,v13),(14,v13),(16,a0),(17,v17),(18,(ptr l18 (o18+11))),(19,v19),(20,v20),(15,v20),(21,v21),(22,v22),(5,ptr l5 0),(6,v22),(23,v22),(24,v24),(25,a0),(26,a1),(27,.agg c27.toArray),(28,ptr l28 0),(7,ptr l28 0),(8,.bool false),(29,(ptr l5 (0+0))),(30,v30),(55,v55),(54,v55),(78,v78),(77,v78),(84,v84),(83,v84),(31,(ptr l5 (0+4))),(32,v32),(33,.bool true),(34,a0),(35,v35),(36,(ptr l36 (o36+12))),(37,v37),(38,v38),(39,v38),(8,v38),(40,(ptr l5 (0+4))),(41,v41),(42,v42),(43,.bool true),(44,ptr l28 0),(45,(ptr l5 (0+1))),(46,v46),(47,v47),(48,v47),(49,a0),(50,v50),(51,(ptr l51 (o51+11))),(52,v52),(53,v53)]) g11 n53) (
Zl C K (puts (Jj [a0,a1]) [(4,.slice none 0 0),(9,a0),(10,v10),(11,.bool false),(12,a1),(13,v13),(14,v13),(16,a0),(17,v17),(18,(ptr l18 (o18+11))),(19,v19),(20,v20),(15,v20),(21,v21),(22,v22),(5,ptr l5 0),(6,v22),(23,v22),(24,v24),(25,a0),(26,a1),(27,.agg c27.toArray),(28,ptr l28 0),(7,ptr l28 0),(8,.bool false),(29,(ptr l5 (0+0))),(30,v30),(55,v55),(54,v55),(78,v78),(77,v78),(84,v84),(83,v84),(31,(ptr l5 (0+4))),(32,v32),(33,.bool true),(34,a0),(35,v35),(36,(ptr l36 (o36+12))),(37,v37),(38,v38),(39,v38),(8,v38),(40,(ptr l5 (0+4))),(41,v41),(42,v42),(43,.bool true),(44,ptr l28 0),(45,(ptr l5 (0+1))),(46,v46),(47,v47),(48,v47)]) g10 n47)) (
Zl C K (puts (Jj [a0,a1]) [(4,.slice none 0 0),(9,a0),(10,v10),(11,.bool false),(12,a1),(13,v13),(14,v13),(16,a0),(17,v17),(18,(ptr l18 (o18+11))),(19,v19),(20,v20),(15,v20),(21,v21),(22,v22),(5,ptr l5 0),(6,v22),(23,v22),(24,v24),(25,a0),(26,a1),(27,.agg c27.toArray),(28,ptr l28 0),(7,ptr l28 0),(8,.bool false),(29,(ptr l5 (0+0))),(30,v30),(55,v55),(54,v55),(78,v78),(77,v78),(84,v84),(83,v84),(31,(ptr l5 (0+4))),(32,v32),(33,.bool true),(34,a0),(35,v35),(36,(ptr l36 (o36+12))),(37,v37),(38,v38),(39,v38),(8,v38),(40,(ptr l5 (0+4))),(41,v41),(42,v42),(43,.bool false),(44,undef),(45,undef),(46,undef),(47,undef),(48,.bool false)]) g4 n28)) (
kLd g4 l5 (0+4) fun v41=>
kUn .not v41 fun v42=>
Qa v42 (
kLd g4 l5 (0+1) fun v46=>
C JI [ptr l28 0,v46,.int .i64 5] g4 n28 fun v47 g12 n47=>
Qa v47 (
Jg a0 fun v50=>
Qd v50 fun l51 o51=>
kLd g12 l51 (o51+11) fun v52=>
C J6 [v52] g12 n47 fun v53 g13 n53=>
Zl C K (puts (Jj [a0,a1]) [(4,.slice none 0 0),(9,a0),(10,v10),(11,.bool false),(12,a1),(13,v13),(14,v13),(16,a0),(17,v17),(18,(ptr l18 (o18+11))),(19,v19),(20,v20),(15,v20),(21,v21),(22,v22),(5,ptr l5 0),(6,v22),(23,v22),(24,v24),(25,a0),(26,a1),(27,.agg c27.toArray),(28,ptr l28 0),(7,ptr l28 0),(8,.bool false),(29,(ptr l5 (0+0))),(30,v30),(55,v55),(54,v55),(78,v78),(77,v78),(84,v84),(83,v84),(31,(ptr l5 (0+4))),(32,v32),(33,.bool false),(34,undef),(35,undef),(36,undef),(37,undef),(38,undef),(39,.bool false),(8,.bool false),(40,(ptr l5 (0+4))),(41,v41),(42,v42),(43,.bool true),(44,ptr l28 0),(45,(ptr l5 (0+1))),(46,v46),(47,v47),(48,v47),(49,a0),(50,v50),(51,(ptr l51 (o51+11))),(52,v52),(53,v53)]) g13 n53) (
Zl C K (puts (Jj [a0,a1]) [(4,.slice none 0 0),(9,a0),(10,v10),(11,.bool false),(12,a1),(13,v13),(14,v13),(16,a0),(17,v17),(18,(ptr l18 (o18+11))),(19,v19),(20,v20),(15,v20),(21,v21),(22,v22),(5,ptr l5 0),(6,v22),(23,v22),(24,v24),(25,a0),(26,a1),(27,.agg c27.toArray),(28,ptr l28 0),(7,ptr l28 0),(8,.bool false),(29,(ptr l5 (0+0))),(30,v30),(55,v55),(54,v55),(78,v78),(77,v78),(84,v84),(83,v84),(31,(ptr l5 (0+4))),(32,v32),(33,.bool false),(34,undef),(35,undef),(36,undef),(37,undef),(38,undef),(39,.bool false),(8,.bool false),(40,(ptr l5 (0+4))),(41,v41),(42,v42),(43,.bool true),(44,ptr l28 0),(45,(ptr l5 (0+1))),(46,v46),(47,v47),(48,v47)]) g12 n47)) (
Zl C K (puts (Jj [a0,a1]) [(4,.slice none 0 0),(9,a0),(10,v10),(11,.bool false),(12,a1),(13,v13),(14,v13),(16,a0),(17,v17),(18,(ptr l18 (o18+11))),(19,v19),(20,v20),(15,v20),(21,v21),(22,v22),(5,ptr l5 0),(6,v22),(23,v22),(24,v24),(25,a0),(26,a1),(27,.agg c27.toArray),(28,ptr l28 0),(7,ptr l28 0),(8,.bool false),(29,(ptr l5 (0+0))),(30,v30),(55,v55),(54,v55),(78,v78),(77,v78),(84,v84),(83,v84),(31,(ptr l5 (0+4))),(32,v32),(33,.bool false),(34,undef),(35,undef),(36,undef),(37,undef),(38,undef),(39,.bool false),(8,.bool false),(40,(ptr l5 (0+4))),(41,v41),(42,v42),(43,.bool false),(44,undef),(45,undef),(46,undef),(47,undef),(48,.bool false)]) g4 n28))))))))
theorem Jck (C:CT) (a0 a1:Value) (g:G) (n:Nat) (K:Cont):QbD C a0 a1 g n K=Je Tryz.prog C Jo [a0,a1] g n K:=by kernel_rfl
def QbZ (C:CT) (a0 a1:Value) (g:G) (n:Nat) (K:Cont):Prop:=
C Xt [a0,a1] g n fun v13 g1 n13=>
Jb .ptr .eql v13 (.pointer none) fun v15=>
Qa v15 (
Jc K (.int .i64 1) g1 n13) (
Jg v13 fun v18=>
Qd v18 fun l19 o19=>
C X2 [(ptr l19 (o19+1))] g1 n13 fun v20 g2 n20=>
Xc v20 0 fun v21=>
Xc v20 1 fun v22=>
Zq [.int .i64 0,.int .i64 0,.bool false,.bool false,.int .u64 0,.int .u64 0,.int .u64 0,.int .u64 0,.int .u64 0,.int .u64 0,.int .u64 0,.int .u64 0] .exact g2 n20 fun l6 g3 n6=>
Zn v21 fun cg4=>
cg4.length=12∧Xu g3 l6 0 cg4 fun g4=>
kUn .not v22 fun v25=>
Qa v25 (
Jc K (.int .i64 14) g4 n6) (
Jg a0 fun v28=>
Qd v28 fun l29 o29=>
kLd g4 l29 (o29+8) fun v30=>
kLd g4 l6 (0+1) fun v32=>
Xd v30 v32 15 fun v33=>
Qd v33 fun l34 o34=>
kLd g4 l34 (o34+12) fun v35=>
Jb .int .neq v35 (.int .i64 0) fun v36=>
Qa v36 (
Jc K (.int .i64 15) g4 n6) (
kLd g4 l6 (0+1) fun v39=>
C Zav [a0,v39] g4 n6 fun v40 g5 n40=>
Jg a0 fun v43=>
Qd v43 fun l44 o44=>
kLd g5 l44 (o44+8) fun v45=>
kLd g5 l6 (0+1) fun v47=>
Xd v45 v47 15 fun v48=>
Qd v48 fun l49 o49=>
Zo g5 l49 o49 15 fun c49=>
Zo g5 l6 0 12 fun c51=>
(C ZbP [.agg c49.toArray,a1,.agg c51.toArray] g5 n40 fun v52 g6 n52=>
Xc v52 0 fun v53=>
Xc v52 1 fun v54=>
Xc v52 2 fun v55=>
Zq [.bool false,.bool false,.int .u64 0,.int .u64 0,.int .u64 0,.int .u64 0,.int .u64 0,.int .u64 0,.int .u64 0,.int .u64 0,.int .i64 0,.int .u8 0,.int .i64 0,.int .i64 0,.int .u8 0] .exact g6 n52 fun l8 g7 n8=>
(Qd (ptr l44 (o44+8)) fun l _=>g7 l=g6 l)∧(Qd (ptr l6 (0+1)) fun l _=>g7 l=g6 l)∧(Qd v48 fun l _=>g7 l=g6 l)∧(Qd (ptr l6 0) fun l _=>g7 l=g6 l)∧Zn v53 fun cg8=>
cg8.length=15∧Xu g7 l8 0 cg8 fun g8=>
Jb .int .neq v55 (.int .i64 0) fun v57=>
Qa v57 (
Jc K v55 g8 n8) (
Jg v13 fun v60=>
Qd v60 fun l61 o61=>
C Jv [(ptr l61 (o61+1))] g8 n8 fun v62 g9 n62=>
Jg a0 fun v64=>
Qd v64 fun l65 o65=>
kLd g9 l65 (o65+8) fun v66=>
kLd g9 l6 (0+1) fun v68=>
Zo g9 l8 0 15 fun c69=>
Xd v66 v68 15 fun v70=>
Qd v70 fun lg10 og10=>
Zn (.agg c69.toArray) fun cg10=>
cg10.length=15∧Xu g9 lg10 og10 cg10 fun g10=>
kLd g10 l6 (0+1) fun v74=>
C Xn [a0,v54,v74] g10 n62 fun v75 g11 n75=>
Jc K (.int .i64 0) g11 n75))∧(Zq [.bool false,.bool false,.int .u64 0,.int .u64 0,.int .u64 0,.int .u64 0,.int .u64 0,.int .u64 0,.int .u64 0,.int .u64 0,.int .i64 0,.int .u8 0,.int .i64 0,.int .i64 0,.int .u8 0] .exact g5 n40 fun l8 g12 n8=>
(Qd (ptr l44 (o44+8)) fun l _=>g12 l=g5 l)∧(Qd (ptr l6 (0+1)) fun l _=>g12 l=g5 l)∧(Qd v48 fun l _=>g12 l=g5 l)∧(Qd (ptr l6 0) fun l _=>g12 l=g5 l)∧C ZbP [.agg c49.toArray,a1,.agg c51.toArray] g12 n8 fun v52 g13 n52=>
Xc v52 0 fun v53=>
Xc v52 1 fun v54=>
Xc v52 2 fun v55=>
Zn v53 fun cg14=>
cg14.length=15∧Xu g13 l8 0 cg14 fun g14=>
Jb .int .neq v55 (.int .i64 0) fun v57=>
Qa v57 (
Jc K v55 g14 n52) (
Jg v13 fun v60=>
Qd v60 fun l61 o61=>
C Jv [(ptr l61 (o61+1))] g14 n52 fun v62 g15 n62=>
Jg a0 fun v64=>
Qd v64 fun l65 o65=>
kLd g15 l65 (o65+8) fun v66=>
kLd g15 l6 (0+1) fun v68=>
Zo g15 l8 0 15 fun c69=>
Xd v66 v68 15 fun v70=>
Qd v70 fun lg16 og16=>
Zn (.agg c69.toArray) fun cg16=>
cg16.length=15∧Xu g15 lg16 og16 cg16 fun g16=>
kLd g16 l6 (0+1) fun v74=>
C Xn [a0,v54,v74] g16 n62 fun v75 g17 n75=>
Jc K (.int .i64 0) g17 n75)))))
theorem Xcq (C:CT) (a0 a1:Value) (g:G) (n:Nat) (K:Cont):QbZ C a0 a1 g n K=Je Tryz.prog C QO [a0,a1] g n K:=by kernel_rfl
def Za0 (C:CT) (K:Cont) (t:Env) (g:G) (n:Nat):Prop:=
Qd (t 7) fun l50 o50=>
Zo g l50 o50 12 fun c50=>
Qd (t 4) fun lg12 og12=>
Zn (.agg c50.toArray) fun cg12=>
cg12.length=12∧Xu g lg12 og12 cg12 fun g12=>
Qd (t 4) fun lr0 or0=>
Zo g12 lr0 or0 12 fun r0=>
Jc K (.tuple #[.agg r0.toArray,t 10]) g12 n
def JaX (C:CT) (K:Cont) (I_l1:Qj) (t:Env) (g:G) (n:Nat):Prop:=
Jb .int .lss (t 40) (t 39) fun v41=>
Qa v41 (
Xd (t 38) (t 40) 12 fun v42=>
Qd v42 fun l43 o43=>
Zo g l43 o43 12 fun c43=>
Zq [.int .i64 0,.int .i64 0,.bool false,.bool false,.int .u64 0,.int .u64 0,.int .u64 0,.int .u64 0,.int .u64 0,.int .u64 0,.int .u64 0,.int .u64 0] .exact g n fun l12 g9 n12=>
Zn (.agg c43.toArray) fun cg10=>
cg10.length=12∧Xu g9 l12 0 cg10 fun g10=>
Jg (t 6) fun v45=>
Qd v45 fun l46 o46=>
Zo g10 l12 0 12 fun c47=>
C Jq [(ptr l46 (o46+2)),.agg c47.toArray] g10 n12 fun v48 g11 n48=>
Jb .int .add (t 40) (.int .i64 1) fun v49=>
I_l1 (puts t [(41,v41),(42,v42),(43,.agg c43.toArray),(12,ptr l12 0),(44,t 6),(45,v45),(46,(ptr l46 (o46+2))),(47,.agg c47.toArray),(48,v48),(49,v49),(40,v49)]) g11 n48) (
Za0 C K (puts t [(41,v41)]) g n)
def Xbs (C:CT) (a0 a1:Value) (g:G) (n:Nat) (K:Cont):Prop:=
Zq [.int .i64 0,.int .i64 0,.bool false,.bool false,.int .u64 0,.int .u64 0,.int .u64 0,.int .u64 0,.int .u64 0,.int .u64 0,.int .u64 0,.int .u64 0] .exact g n fun l4 g1 n4=>
C Xt [a0,a1] g1 n4 fun v15 g2 n15=>
Jb .ptr .eql v15 (.pointer none) fun v17=>
Qa v17 (
Xf [.int .i64 0,.int .i64 0,.bool false,.bool false,.int .u64 0,.int .u64 0,.int .u64 0,.int .u64 0,.int .u64 0,.int .u64 0,.int .u64 0,.int .u64 0] [] fun c18=>
Zn (.agg c18.toArray) fun cg3=>
cg3.length=12∧Xu g2 l4 0 cg3 fun g3=>
Zo g3 l4 0 12 fun r0=>
Jc K (.tuple #[.agg r0.toArray,.int .i64 1]) g3 n15) (
Jg v15 fun v21=>
Qd v21 fun l22 o22=>
C Jv [(ptr l22 (o22+3))] g2 n15 fun v23 g4 n23=>
Xc v23 0 fun v24=>
Xc v23 1 fun v25=>
Zq [.int .i64 0,.int .i64 0,.bool false,.bool false,.int .u64 0,.int .u64 0,.int .u64 0,.int .u64 0,.int .u64 0,.int .u64 0,.int .u64 0,.int .u64 0] .exact g4 n23 fun l7 g5 n7=>
Zn v24 fun cg6=>
cg6.length=12∧Xu g5 l7 0 cg6 fun g6=>
kUn .not v25 fun v27=>
Qa v27 (
Xf [.int .i64 0,.int .i64 0,.bool false,.bool false,.int .u64 0,.int .u64 0,.int .u64 0,.int .u64 0,.int .u64 0,.int .u64 0,.int .u64 0,.int .u64 0] [] fun c28=>
Zn (.agg c28.toArray) fun cg7=>
cg7.length=12∧Xu g6 l4 0 cg7 fun g7=>
Zo g7 l4 0 12 fun r0=>
Jc K (.tuple #[.agg r0.toArray,.int .i64 14]) g7 n7) (
Jg v15 fun v31=>
Qd v31 fun l32 o32=>
kLd g6 l32 (o32+0) fun v33=>
Zo g6 l7 0 12 fun c34=>
C Xat [v33,.agg c34.toArray] g6 n7 fun v35 g8 n35=>
Xc v35 0 fun v36=>
Xc v35 1 fun v37=>
Jaw v36 fun v39=>
lfp (JaX C K) (puts (Jj [a0,a1]) [(4,ptr l4 0),(5,.int .i64 0),(13,a0),(14,a1),(15,v15),(6,v15),(16,v15),(17,v17),(20,v15),(21,v21),(22,(ptr l22 (o22+3))),(23,v23),(19,v23),(24,v24),(25,v25),(7,ptr l7 0),(8,v25),(26,v25),(27,v27),(30,v15),(31,v31),(32,(ptr l32 (o32+0))),(33,v33),(34,.agg c34.toArray),(35,v35),(29,v35),(36,v36),(37,v37),(9,v36),(10,v37),(38,v36),(39,v39),(40,.int .i64 0)]) g8 n35))
theorem Zb8 (C:CT) (a0 a1:Value) (g:G) (n:Nat) (K:Cont):Xbs C a0 a1 g n K=Je Tryz.prog C ZG [a0,a1] g n K:=by kernel_rfl
def Za2 (C:CT) (g:G) (n:Nat) (K:Cont):Prop:=
C XW [] g n fun v9 g1 n9=>
C Zbi [v9,.slice none 0 0] g1 n9 fun v10 g2 n10=>
Xc v10 0 fun v11=>
Xc v10 1 fun v12=>
Xf [.int .i64 0,.int .i64 0,.int .i64 0,.int .i64 0,.int .i64 0] [(0,none,.int .i64 1),(1,none,.int .i64 1),(4,none,.int .i64 5)] fun c14=>
Xf [.int .i64 0,.int .i64 0,.int .i64 0,.int .i64 0,.int .i64 0] [(0,none,.int .i64 9),(1,none,.int .i64 1),(2,none,.int .i64 0),(4,none,.int .i64 192)] fun c15=>
Xf [.int .i64 0,.int .i64 0,.int .i64 0,.int .i64 0,.int .i64 0] [(0,none,.int .i64 8),(1,none,.int .i64 2),(2,none,.int .i64 0),(4,none,.int .i64 192)] fun c16=>
Xf [.int .i64 0,.int .i64 0,.int .i64 0,.int .i64 0,.int .i64 0] [(0,none,.int .i64 8),(1,none,.int .i64 3),(2,none,.int .i64 0),(4,none,.int .i64 193)] fun c17=>
Xf (reps 4 [.int .i64 0,.int .i64 0,.int .i64 0,.int .i64 0,.int .i64 0]) [(0,some 5,.agg c14.toArray),(5,some 5,.agg c15.toArray),(10,some 5,.agg c16.toArray),(15,some 5,.agg c17.toArray)] fun c18=>
Zq c18 .exact g2 n10 fun l18 g3 n18=>
C JX [(.slice (some ⟨l18,0,none⟩) 4 4)] g3 n18 fun v19 g4 n19=>
C Zbk [.int .i64 0,.int .i64 2,v19] g4 n19 fun v20 g5 n20=>
Xc v20 0 fun v21=>
Xc v20 1 fun v22=>
Jb .int .neq v12 (.int .i64 0) fun v24=>
Qa v24 (
Jc K (.bool false) g5 n20) (
Jb .int .neq v22 (.int .i64 0) fun v27=>
Qa v27 (
Jc K (.bool false) g5 n20) (
Jb .ptr .eql v11 (.pointer none) fun v31=>
Qa v31 (
Jc K (.bool false) g5 n20) (
Jb .ptr .eql v21 (.pointer none) fun v35=>
Qa v35 (
Jc K (.bool false) g5 n20) (
C Qo [v21,v11] g5 n20 fun v39 g6 n39=>
C Qo [v21,v11] g6 n39 fun v42 g7 n42=>
C Qo [v21,v11] g7 n42 fun v45 g8 n45=>
C Qo [v21,v11] g8 n45 fun v48 g9 n48=>
Jaw v42 fun v50=>
Jb .int .eql v50 (.int .i64 1) fun v51=>
Qa v51 (
Xd v42 (.int .i64 0) 5 fun v54=>
Qd v54 fun l55 o55=>
kLd g9 l55 (o55+0) fun v56=>
Jb .int .eql v56 (.int .i64 12) fun v57=>
Qa v57 (
Xd v42 (.int .i64 0) 5 fun v61=>
Qd v61 fun l62 o62=>
kLd g9 l62 (o62+2) fun v63=>
Jb .int .eql v63 (.int .i64 3) fun v64=>
Qa v64 (
Jaw v45 fun v68=>
Jb .int .eql v68 (.int .i64 1) fun v69=>
Qa v69 (
Xd v45 (.int .i64 0) 5 fun v73=>
Qd v73 fun l74 o74=>
kLd g9 l74 (o74+0) fun v75=>
Jb .int .eql v75 (.int .i64 2) fun v76=>
Qa v76 (
Xd v45 (.int .i64 0) 5 fun v80=>
Qd v80 fun l81 o81=>
kLd g9 l81 (o81+4) fun v82=>
Jb .int .eql v82 (.int .u64 5) fun v83=>
Qa v83 (
Jaw v48 fun v87=>
Jb .int .eql v87 (.int .i64 1) fun v88=>
Qa v88 (
Xd v48 (.int .i64 0) 5 fun v92=>
Qd v92 fun l93 o93=>
kLd g9 l93 (o93+0) fun v94=>
Jb .int .eql v94 (.int .i64 10) fun v95=>
Qa v95 (
C QaG [v21] g9 n48 fun v99 g10 n99=>
ZdB v99 (.int .i64 2) 8 1 none fun v100=>
Jb .int .eql v100 (.int .u64 5) fun v101=>
Qa v101 (
C Qaj [v21] g10 n99 fun v105 g11 n105=>
kUn .not v105 fun v106=>
Qa v106 (
C J7 [v21] g11 n105 fun v110 g12 n110=>
Jaw v110 fun v111=>
Jb .int .eql v111 (.int .i64 1) fun v112=>
Jc K v112 g12 n110) (
Jc K (.bool false) g11 n105)) (
Jc K (.bool false) g10 n99)) (
Jc K (.bool false) g9 n48)) (
Jc K (.bool false) g9 n48)) (
Jc K (.bool false) g9 n48)) (
Jc K (.bool false) g9 n48)) (
Jc K (.bool false) g9 n48)) (
Jc K (.bool false) g9 n48)) (
Jc K (.bool false) g9 n48)) (
Jc K (.bool false) g9 n48)))))
theorem XbL (C:CT) (g:G) (n:Nat) (K:Cont):Za2 C g n K=Je Tryz.prog C Jr [] g n K:=by kernel_rfl
def QbY (C:CT) (a0:Value) (g:G) (n:Nat) (K:Cont):Prop:=
Jb .ptr .neq a0 (.pointer none) fun v4=>
Qa v4 (
Jg a0 fun v7=>
Qd v7 fun l8 o8=>
kLd g l8 (o8+13) fun v9=>
Jc K v9 g n) (
Jc K (.bool false) g n)
theorem Jcq (C:CT) (a0:Value) (g:G) (n:Nat) (K:Cont):QbY C a0 g n K=Je Tryz.prog C Qaj [a0] g n K:=by kernel_rfl
def JbX (C:CT) (a0 a1:Value) (g:G) (n:Nat) (K:Cont):Prop:=
Zn a1 fun c3=>
Zq c3 .exact g n fun l3 g1 n3=>
Jb .ptr .eql a0 (.pointer none) fun v6=>
Qa v6 (
Jc K (.slice none 0 0) g1 n3) (
kLd g1 l3 (0+0) fun v9=>
Jb .int .neq v9 (.int .i64 14) fun v10=>
Qa v10 (
Jc K (.slice none 0 0) g1 n3) (
Jg a0 fun v14=>
Qd v14 fun l15 o15=>
kLd g1 l15 (o15+12) fun v16=>
Jb .int .eql v16 (.int .i64 0) fun v17=>
Qa v17 (
Jc K (.slice none 0 0) g1 n3) (
Jg a0 fun v20=>
Qd v20 fun l21 o21=>
kLd g1 l21 (o21+12) fun v22=>
Jb .int .sub v22 (.int .i64 1) fun v23=>
Jg a0 fun v24=>
Qd v24 fun l25 o25=>
kSt g1 l25 (o25+12) v23 fun g2=>
Jg a0 fun v27=>
Qd v27 fun l28 o28=>
kLd g2 l28 (o28+0) fun v29=>
kLd g2 l3 (0+1) fun v31=>
Xf [.int .i64 0,.int .i64 0,.int .i64 0,.int .i64 0,.int .u64 0] [(0,none,.int .i64 6),(1,none,v29),(2,none,v31)] fun c32=>
Xf (reps 1 [.int .i64 0,.int .i64 0,.int .i64 0,.int .i64 0,.int .u64 0]) [(0,some 5,.agg c32.toArray)] fun c33=>
Zq c33 .exact g2 n3 fun l33 g3 n33=>
Jc K (.slice (some ⟨l33,0,none⟩) 1 1) g3 n33)))
theorem Jcw (C:CT) (a0 a1:Value) (g:G) (n:Nat) (K:Cont):JbX C a0 a1 g n K=Je Tryz.prog C JN [a0,a1] g n K:=by kernel_rfl
def Za5 (C:CT) (a0 a1:Value) (g:G) (n:Nat) (K:Cont):Prop:=
C Xt [a0,a1] g n fun v13 g1 n13=>
Jb .ptr .eql v13 (.pointer none) fun v15=>
Qa v15 (
Jc K (.int .i64 1) g1 n13) (
Jg v13 fun v18=>
Qd v18 fun l19 o19=>
C Jv [(ptr l19 (o19+2))] g1 n13 fun v20 g2 n20=>
Xc v20 0 fun v21=>
Xc v20 1 fun v22=>
Zq [.int .i64 0,.int .i64 0,.bool false,.bool false,.int .u64 0,.int .u64 0,.int .u64 0,.int .u64 0,.int .u64 0,.int .u64 0,.int .u64 0,.int .u64 0] .exact g2 n20 fun l6 g3 n6=>
Zn v21 fun cg4=>
cg4.length=12∧Xu g3 l6 0 cg4 fun g4=>
kUn .not v22 fun v24=>
Qa v24 (
Jc K (.int .i64 14) g4 n6) (
Jg a0 fun v27=>
Qd v27 fun l28 o28=>
kLd g4 l28 (o28+8) fun v29=>
kLd g4 l6 (0+1) fun v31=>
Xd v29 v31 15 fun v32=>
Qd v32 fun l33 o33=>
Zo g4 l33 o33 15 fun c33=>
Zo g4 l6 0 12 fun c35=>
(C JaP [.agg c33.toArray,a1,.agg c35.toArray] g4 n6 fun v36 g5 n36=>
Xc v36 0 fun v37=>
Xc v36 1 fun v38=>
Xc v36 2 fun v39=>
Zq [.bool false,.bool false,.int .u64 0,.int .u64 0,.int .u64 0,.int .u64 0,.int .u64 0,.int .u64 0,.int .u64 0,.int .u64 0,.int .i64 0,.int .u8 0,.int .i64 0,.int .i64 0,.int .u8 0] .exact g5 n36 fun l8 g6 n8=>
(Qd (ptr l28 (o28+8)) fun l _=>g6 l=g5 l)∧(Qd (ptr l6 (0+1)) fun l _=>g6 l=g5 l)∧(Qd v32 fun l _=>g6 l=g5 l)∧(Qd (ptr l6 0) fun l _=>g6 l=g5 l)∧Zn v37 fun cg7=>
cg7.length=15∧Xu g6 l8 0 cg7 fun g7=>
Jb .int .neq v39 (.int .i64 0) fun v41=>
Qa v41 (
Jc K v39 g7 n8) (
Jg a0 fun v44=>
Qd v44 fun l45 o45=>
kLd g7 l45 (o45+8) fun v46=>
kLd g7 l6 (0+1) fun v48=>
Zo g7 l8 0 15 fun c49=>
Xd v46 v48 15 fun v50=>
Qd v50 fun lg8 og8=>
Zn (.agg c49.toArray) fun cg8=>
cg8.length=15∧Xu g7 lg8 og8 cg8 fun g8=>
kLd g8 l6 (0+1) fun v54=>
C Xn [a0,v38,v54] g8 n8 fun v55 g9 n55=>
Jc K (.int .i64 0) g9 n55))∧(Zq [.bool false,.bool false,.int .u64 0,.int .u64 0,.int .u64 0,.int .u64 0,.int .u64 0,.int .u64 0,.int .u64 0,.int .u64 0,.int .i64 0,.int .u8 0,.int .i64 0,.int .i64 0,.int .u8 0] .exact g4 n6 fun l8 g10 n8=>
(Qd (ptr l28 (o28+8)) fun l _=>g10 l=g4 l)∧(Qd (ptr l6 (0+1)) fun l _=>g10 l=g4 l)∧(Qd v32 fun l _=>g10 l=g4 l)∧(Qd (ptr l6 0) fun l _=>g10 l=g4 l)∧C JaP [.agg c33.toArray,a1,.agg c35.toArray] g10 n8 fun v36 g11 n36=>
Xc v36 0 fun v37=>
Xc v36 1 fun v38=>
Xc v36 2 fun v39=>
Zn v37 fun cg12=>
cg12.length=15∧Xu g11 l8 0 cg12 fun g12=>
Jb .int .neq v39 (.int .i64 0) fun v41=>
Qa v41 (
Jc K v39 g12 n36) (
Jg a0 fun v44=>
Qd v44 fun l45 o45=>
kLd g12 l45 (o45+8) fun v46=>
kLd g12 l6 (0+1) fun v48=>
Zo g12 l8 0 15 fun c49=>
Xd v46 v48 15 fun v50=>
Qd v50 fun lg13 og13=>
Zn (.agg c49.toArray) fun cg13=>
cg13.length=15∧Xu g12 lg13 og13 cg13 fun g13=>
kLd g13 l6 (0+1) fun v54=>
C Xn [a0,v38,v54] g13 n36 fun v55 g14 n55=>
Jc K (.int .i64 0) g14 n55))))
theorem JbE (C:CT) (a0 a1:Value) (g:G) (n:Nat) (K:Cont):Za5 C a0 a1 g n K=Je Tryz.prog C XU [a0,a1] g n K:=by kernel_rfl
def Zbx (C:CT) (a0 a1:Value) (g:G) (n:Nat) (K:Cont):Prop:=
C Qv [a0,a1] g n fun v12 g1 n12=>
kUn .not v12 fun v13=>
Qa v13 (
Jc K (.int .i64 1) g1 n12) (
Jg a0 fun v16=>
Qd v16 fun l17 o17=>
kLd g1 l17 (o17+8) fun v18=>
Xd v18 a1 15 fun v20=>
Qd v20 fun l21 o21=>
Zo g1 l21 o21 15 fun c21=>
C Xa4 [.agg c21.toArray] g1 n12 fun v22 g2 n22=>
kUn .not v22 fun v23=>
Qa v23 (
Jc K (.int .i64 16) g2 n22) (
C Xam [a0,a1] g2 n22 fun v26 g3 n26=>
Jb .int .neq v26 (.int .i64 0) fun v28=>
Qa v28 (
Jc K v26 g3 n26) (
Jg a0 fun v32=>
Qd v32 fun l33 o33=>
kLd g3 l33 (o33+8) fun v34=>
Xd v34 a1 15 fun v36=>
Qd v36 fun l37 o37=>
Zo g3 l37 o37 15 fun c37=>
C Jbo [.agg c37.toArray] g3 n26 fun v38 g4 n38=>
Xc v38 0 fun v39=>
Xc v38 1 fun v40=>
Xc v38 2 fun v41=>
Zq [.bool false,.bool false,.int .u64 0,.int .u64 0,.int .u64 0,.int .u64 0,.int .u64 0,.int .u64 0,.int .u64 0,.int .u64 0,.int .i64 0,.int .u8 0,.int .i64 0,.int .i64 0,.int .u8 0] .exact g4 n38 fun l6 g5 n6=>
Zn v39 fun cg6=>
cg6.length=15∧Xu g5 l6 0 cg6 fun g6=>
Jb .int .neq v41 (.int .i64 0) fun v43=>
Qa v43 (
Jc K v41 g6 n6) (
Jg a0 fun v46=>
Qd v46 fun l47 o47=>
kLd g6 l47 (o47+8) fun v48=>
Zo g6 l6 0 15 fun c50=>
Xd v48 a1 15 fun v51=>
Qd v51 fun lg7 og7=>
Zn (.agg c50.toArray) fun cg7=>
cg7.length=15∧Xu g6 lg7 og7 cg7 fun g7=>
C Xn [a0,v40,a1] g7 n6 fun v55 g8 n55=>
Jc K (.int .i64 0) g8 n55))))
theorem Qb0 (C:CT) (a0 a1:Value) (g:G) (n:Nat) (K:Cont):Zbx C a0 a1 g n K=Je Tryz.prog C Z6 [a0,a1] g n K:=by kernel_rfl
def JdU (C:CT) (a0:Value) (g:G) (n:Nat) (K:Cont):Prop:=
Zn a0 fun c1=>
Zq c1 .exact g n fun l1 g1 n1=>
kLd g1 l1 (0+3) fun v5=>
Jb .int .eql v5 (.int .i64 1) fun v6=>
Qa v6 (
kLd g1 l1 (0+0) fun v23=>
C Qf [v23,.int .i64 1,.int .i64 8] g1 n1 fun v24 g2 n24=>
Qa v24 (
kLd g2 l1 (0+1) fun v27=>
C Qf [v27,.int .i64 2,.int .i64 64] g2 n24 fun v28 g3 n28=>
Qa v28 (
kLd g3 l1 (0+2) fun v32=>
kLd g3 l1 (0+1) fun v34=>
Jb .int .sub v34 (.int .i64 1) fun v35=>
C Qf [v32,.int .i64 1,v35] g3 n28 fun v36 g4 n36=>
Qa v36 (
kLd g4 l1 (0+4) fun v43=>
C Qf [v43,.int .i64 1,.int .i64 8] g4 n36 fun v44 g5 n44=>
Qa v44 (
kLd g5 l1 (0+5) fun v48=>
C Qf [v48,.int .i64 1,.int .i64 16] g5 n44 fun v49 g6 n49=>
Qa v49 (
kLd g6 l1 (0+6) fun v53=>
C Qf [v53,.int .i64 1,.int .i64 16] g6 n49 fun v54 g7 n54=>
Jc K v54 g7 n54) (
Jc K (.bool false) g6 n49)) (
Jc K (.bool false) g5 n44)) (
Jc K (.bool false) g4 n36)) (
Jc K (.bool false) g3 n28)) (
Jc K (.bool false) g2 n24)) (
kLd g1 l1 (0+3) fun v9=>
Jb .int .eql v9 (.int .i64 2) fun v10=>
Qa v10 (
kLd g1 l1 (0+0) fun v23=>
C Qf [v23,.int .i64 1,.int .i64 8] g1 n1 fun v24 g8 n24=>
Qa v24 (
kLd g8 l1 (0+1) fun v27=>
C Qf [v27,.int .i64 2,.int .i64 64] g8 n24 fun v28 g9 n28=>
Qa v28 (
kLd g9 l1 (0+2) fun v32=>
kLd g9 l1 (0+1) fun v34=>
Jb .int .sub v34 (.int .i64 1) fun v35=>
C Qf [v32,.int .i64 1,v35] g9 n28 fun v36 g10 n36=>
Qa v36 (
kLd g10 l1 (0+4) fun v43=>
C Qf [v43,.int .i64 1,.int .i64 8] g10 n36 fun v44 g11 n44=>
Qa v44 (
kLd g11 l1 (0+5) fun v48=>
C Qf [v48,.int .i64 1,.int .i64 16] g11 n44 fun v49 g12 n49=>
Qa v49 (
kLd g12 l1 (0+6) fun v53=>
C Qf [v53,.int .i64 1,.int .i64 16] g12 n49 fun v54 g13 n54=>
Jc K v54 g13 n54) (
Jc K (.bool false) g12 n49)) (
Jc K (.bool false) g11 n44)) (
Jc K (.bool false) g10 n36)) (
Jc K (.bool false) g9 n28)) (
Jc K (.bool false) g8 n24)) (
kLd g1 l1 (0+3) fun v14=>
Jb .int .eql v14 (.int .i64 4) fun v15=>
Qa v15 (
kLd g1 l1 (0+0) fun v23=>
C Qf [v23,.int .i64 1,.int .i64 8] g1 n1 fun v24 g14 n24=>
Qa v24 (
kLd g14 l1 (0+1) fun v27=>
C Qf [v27,.int .i64 2,.int .i64 64] g14 n24 fun v28 g15 n28=>
Qa v28 (
kLd g15 l1 (0+2) fun v32=>
kLd g15 l1 (0+1) fun v34=>
Jb .int .sub v34 (.int .i64 1) fun v35=>
C Qf [v32,.int .i64 1,v35] g15 n28 fun v36 g16 n36=>
Qa v36 (
kLd g16 l1 (0+4) fun v43=>
C Qf [v43,.int .i64 1,.int .i64 8] g16 n36 fun v44 g17 n44=>
Qa v44 (
kLd g17 l1 (0+5) fun v48=>
C Qf [v48,.int .i64 1,.int .i64 16] g17 n44 fun v49 g18 n49=>
Qa v49 (
kLd g18 l1 (0+6) fun v53=>
C Qf [v53,.int .i64 1,.int .i64 16] g18 n49 fun v54 g19 n54=>
Jc K v54 g19 n54) (
Jc K (.bool false) g18 n49)) (
Jc K (.bool false) g17 n44)) (
Jc K (.bool false) g16 n36)) (
Jc K (.bool false) g15 n28)) (
Jc K (.bool false) g14 n24)) (
kLd g1 l1 (0+3) fun v19=>
Jb .int .eql v19 (.int .i64 8) fun v20=>
kLd g1 l1 (0+0) fun v23=>
C Qf [v23,.int .i64 1,.int .i64 8] g1 n1 fun v24 g20 n24=>
Qa v24 (
kLd g20 l1 (0+1) fun v27=>
C Qf [v27,.int .i64 2,.int .i64 64] g20 n24 fun v28 g21 n28=>
Qa v28 (
kLd g21 l1 (0+2) fun v32=>
kLd g21 l1 (0+1) fun v34=>
Jb .int .sub v34 (.int .i64 1) fun v35=>
C Qf [v32,.int .i64 1,v35] g21 n28 fun v36 g22 n36=>
Qa v36 (
Qa v20 (
kLd g22 l1 (0+4) fun v43=>
C Qf [v43,.int .i64 1,.int .i64 8] g22 n36 fun v44 g23 n44=>
Qa v44 (
kLd g23 l1 (0+5) fun v48=>
C Qf [v48,.int .i64 1,.int .i64 16] g23 n44 fun v49 g24 n49=>
Qa v49 (
kLd g24 l1 (0+6) fun v53=>
C Qf [v53,.int .i64 1,.int .i64 16] g24 n49 fun v54 g25 n54=>
Jc K v54 g25 n54) (
Jc K (.bool false) g24 n49)) (
Jc K (.bool false) g23 n44)) (
Jc K (.bool false) g22 n36)) (
Jc K (.bool false) g22 n36)) (
Jc K (.bool false) g21 n28)) (
Jc K (.bool false) g20 n24))))
theorem Zea (C:CT) (a0:Value) (g:G) (n:Nat) (K:Cont):JdU C a0 g n K=Je Tryz.prog C ZbH [a0] g n K:=by kernel_rfl
def Qfp (C:CT) (a0 a1:Value) (g:G) (n:Nat) (K:Cont):Prop:=
Jb .int .lss a0 (.int .i64 2) fun v7=>
Qa v7 (
Jc K (.tuple #[.pointer none,.int .i64 1]) g n) (
Jb .int .gtr a0 (.int .i64 64) fun v10=>
Qa v10 (
Jc K (.tuple #[.pointer none,.int .i64 1]) g n) (
Jb .int .lss a1 (.int .i64 1) fun v14=>
Qa v14 (
Jc K (.tuple #[.pointer none,.int .i64 1]) g n) (
Jb .int .sub a0 (.int .i64 1) fun v19=>
Jb .int .gtr a1 v19 fun v20=>
Qa v20 (
Jc K (.tuple #[.pointer none,.int .i64 1]) g n) (
JbS a0 a0 [.int .u64 0,.int .u64 0,.int .u64 0,.int .u64 0,.int .u64 0,.int .u64 0,.int .u64 0,.int .u64 0] 64 g n fun v23 g1 n23=>
Xf [.slice none 0 0,.int .i64 0,.int .i64 0,.int .i64 0] [(0,none,v23),(1,none,a1)] fun c25=>
Zn (.agg c25.toArray) fun c26=>
Zq c26 .exact g1 n23 fun l26 g2 n26=>
Jc K (.tuple #[ptr l26 0,.int .i64 0]) g2 n26))))
theorem Ze4 (C:CT) (a0 a1:Value) (g:G) (n:Nat) (K:Cont):Qfp C a0 a1 g n K=Je Tryz.prog C Jbc [a0,a1] g n K:=by kernel_rfl
def Za3 (C:CT) (a0 a1:Value) (g:G) (n:Nat) (K:Cont):Prop:=
Jb .ptr .eql a0 (.pointer none) fun v6=>
Qa v6 (
Jc K (.int .i64 1) g n) (
Jaw a1 fun v9=>
Jg a0 fun v11=>
Qd v11 fun l12 o12=>
kLd g l12 (o12+0) fun v13=>
Jaw v13 fun v14=>
Jb .int .neq v9 v14 fun v15=>
Qa v15 (
Jc K (.int .i64 1) g n) (
Jg a0 fun v18=>
Qd v18 fun l19 o19=>
kLd g l19 (o19+0) fun v20=>
XbJ v20 a1 8 g fun v22 g1=>
Jc K (.int .i64 0) g1 n))
theorem JbK (C:CT) (a0 a1:Value) (g:G) (n:Nat) (K:Cont):Za3 C a0 a1 g n K=Je Tryz.prog C QU [a0,a1] g n K:=by kernel_rfl
def ZbC (C:CT) (a0:Value) (g:G) (n:Nat) (K:Cont):Prop:=
Jb .ptr .neq a0 (.pointer none) fun v3=>
Qa v3 (
Jg a0 fun v5=>
Qd v5 fun l6 o6=>
kLd g l6 (o6+0) fun v7=>
Jg a0 fun v9=>
Qd v9 fun l10 o10=>
kLd g l10 (o10+1) fun v11=>
QA v7 none (some v11) none 8 fun v12=>
QaJ v12 [.int .u64 0,.int .u64 0,.int .u64 0,.int .u64 0,.int .u64 0,.int .u64 0,.int .u64 0,.int .u64 0] g fun v_ g1=>
Jc K (.tuple #[]) g1 n) (
Jc K (.tuple #[]) g n)
theorem Zcn (C:CT) (a0:Value) (g:G) (n:Nat) (K:Cont):ZbC C a0 g n K=Je Tryz.prog C Zaf [a0] g n K:=by kernel_rfl
def Zfq (C:CT) (a0 a1:Value) (g:G) (n:Nat) (K:Cont):Prop:=
Jb .ptr .eql a0 (.pointer none) fun v7=>
Qa v7 (
Jc K (.tuple #[.pointer none,.int .i64 1]) g n) (
Jb .int .lss a1 (.int .i64 1) fun v10=>
Qa v10 (
Jc K (.tuple #[.pointer none,.int .i64 1]) g n) (
Jb .int .gtr a1 (.int .i64 16) fun v14=>
Qa v14 (
Jc K (.tuple #[.pointer none,.int .i64 1]) g n) (
Xf [.pointer none,.int .i64 0,.slice none 0 0] [(0,none,a0),(1,none,a1)] fun c18=>
Zn (.agg c18.toArray) fun c19=>
Zq c19 .exact g n fun l19 g1 n19=>
Jc K (.tuple #[ptr l19 0,.int .i64 0]) g1 n19)))
theorem QeZ (C:CT) (a0 a1:Value) (g:G) (n:Nat) (K:Cont):Zfq C a0 a1 g n K=Je Tryz.prog C Xcr [a0,a1] g n K:=by kernel_rfl
def QaP (C:CT) (K:Cont) (I_l3:Qj) (t:Env) (g:G) (n:Nat):Prop:=
Jb .int .lss (t 57) (t 56) fun v58=>
Qa v58 (
Jg (t 0) fun v61=>
Qd v61 fun l62 o62=>
kLd g l62 (o62+8) fun v63=>
C JcB [] g n fun v65 g7 n65=>
(Qd (ptr l62 (o62+8)) fun l _=>g7 l=g l)∧Xd v63 (t 57) 15 fun v66=>
Qd v66 fun lg8 og8=>
Zn v65 fun cg8=>
cg8.length=15∧Xu g7 lg8 og8 cg8 fun g8=>
Jb .int .add (t 57) (.int .i64 1) fun v67=>
I_l3 (puts t [(58,v58),(59,t 57),(3,t 57),(60,t 0),(61,v61),(62,(ptr l62 (o62+8))),(63,v63),(64,t 57),(65,v65),(66,v66),(67,v67),(57,v67)]) g8 n65) (
Jc K (.tuple #[]) g n)
def Jak (C:CT) (K:Cont) (t:Env) (g:G) (n:Nat):Prop:=
Jg (t 0) fun v45=>
Qd v45 fun l46 o46=>
kLd g l46 (o46+0+1) fun v48=>
JbS v48 v48 [.bool false,.bool false,.int .u64 0,.int .u64 0,.int .u64 0,.int .u64 0,.int .u64 0,.int .u64 0,.int .u64 0,.int .u64 0,.int .i64 0,.int .u8 0,.int .i64 0,.int .i64 0,.int .u8 0] 112 g n fun v49 g5 n49=>
Jg (t 0) fun v50=>
Qd v50 fun l51 o51=>
kSt g5 l51 (o51+8) v49 fun g6=>
Jg (t 0) fun v53=>
Qd v53 fun l54 o54=>
kLd g6 l54 (o54+8) fun v55=>
Jaw v55 fun v56=>
lfp (QaP C K) (puts t [(43,t 0),(44,t 0),(45,v45),(46,(ptr l46 (o46+0))),(47,(ptr l46 (o46+0+1))),(48,v48),(49,v49),(50,v50),(51,(ptr l51 (o51+8))),(52,t 0),(53,v53),(54,(ptr l54 (o54+8))),(55,v55),(56,v56),(57,.int .i64 0)]) g6 n49
def ZaP (C:CT) (K:Cont) (I_l1:Qj) (t:Env) (g:G) (n:Nat):Prop:=
Jb .int .lss (t 18) (t 17) fun v19=>
Qa v19 (
Jg (t 0) fun v23=>
Qd v23 fun l24 o24=>
kLd g l24 (o24+7) fun v25=>
Jg (t 0) fun v28=>
Qd v28 fun l29 o29=>
kLd g l29 (o29+0+3) fun v31=>
Jg (t 0) fun v33=>
Qd v33 fun l34 o34=>
kLd g l34 (o34+0+4) fun v36=>
C QbI [v31,v36] g n fun v37 g3 n37=>
(Qd (ptr l24 (o24+7)) fun l _=>g3 l=g l)∧Xc v37 0 fun v38=>
Xc v37 1 fun v39=>
Xd v25 (t 18) 4 fun v40=>
Qd v40 fun l41 o41=>
kSt g3 l41 (o41+0) v38 fun g4=>
Jb .int .add (t 18) (.int .i64 1) fun v42=>
I_l1 (puts t [(19,v19),(20,t 18),(2,t 18),(22,t 0),(23,v23),(24,(ptr l24 (o24+7))),(25,v25),(26,t 18),(27,t 0),(28,v28),(29,(ptr l29 (o29+0))),(30,(ptr l29 (o29+0+3))),(31,v31),(32,t 0),(33,v33),(34,(ptr l34 (o34+0))),(35,(ptr l34 (o34+0+4))),(36,v36),(37,v37),(21,v37),(38,v38),(39,v39),(40,v40),(41,(ptr l41 (o41+0))),(42,v42),(18,v42)]) g4 n37) (
Jak C K (puts t [(19,v19)]) g n)
def Jbf (C:CT) (a0:Value) (g:G) (n:Nat) (K:Cont):Prop:=
Jg a0 fun v6=>
Qd v6 fun l7 o7=>
kLd g l7 (o7+0+0) fun v9=>
JbS v9 v9 [.pointer none,.slice none 0 0,.slice none 0 0,.slice none 0 0] 80 g n fun v10 g1 n10=>
Jg a0 fun v11=>
Qd v11 fun l12 o12=>
kSt g1 l12 (o12+7) v10 fun g2=>
Jg a0 fun v14=>
Qd v14 fun l15 o15=>
kLd g2 l15 (o15+7) fun v16=>
Jaw v16 fun v17=>
lfp (ZaP C K) (puts (Jj [a0]) [(4,a0),(5,a0),(6,v6),(7,(ptr l7 (o7+0))),(8,(ptr l7 (o7+0+0))),(9,v9),(10,v10),(11,v11),(12,(ptr l12 (o12+7))),(13,a0),(14,v14),(15,(ptr l15 (o15+7))),(16,v16),(17,v17),(18,.int .i64 0)]) g2 n10
theorem QbR (C:CT) (a0:Value) (g:G) (n:Nat) (K:Cont):Jbf C a0 g n K=Je Tryz.prog C Jal [a0] g n K:=by kernel_rfl
def ZeM (C:CT) (a0:Value) (g:G) (n:Nat) (K:Cont):Prop:=
Jb .int .lss a0 (.int .i64 1) fun v5=>
Qa v5 (
Jc K (.tuple #[.pointer none,.int .i64 1]) g n) (
Jb .int .gtr a0 (.int .i64 16) fun v8=>
Qa v8 (
Jc K (.tuple #[.pointer none,.int .i64 1]) g n) (
Xf [.int .i64 0,.int .i64 0,.int .i64 0,.int .u64 0,.bool false,.int .i64 0,.int .i64 0,.int .i64 0,.int .u64 0,.bool false,.int .i64 0,.int .i64 0,.int .i64 0,.int .u64 0,.bool false,.int .i64 0,.int .i64 0,.int .i64 0,.int .u64 0,.bool false,.int .i64 0,.int .i64 0,.int .i64 0,.int .u64 0,.bool false,.int .i64 0,.int .i64 0,.int .i64 0,.int .u64 0,.bool false,.int .i64 0,.int .i64 0,.int .i64 0,.int .u64 0,.bool false,.int .i64 0,.int .i64 0,.int .i64 0,.int .u64 0,.bool false,.int .i64 0,.int .i64 0,.int .i64 0,.int .u64 0,.bool false,.int .i64 0,.int .i64 0,.int .i64 0,.int .u64 0,.bool false,.int .i64 0,.int .i64 0,.int .i64 0,.int .u64 0,.bool false,.int .i64 0,.int .i64 0,.int .i64 0,.int .u64 0,.bool false,.int .i64 0,.int .i64 0,.int .i64 0,.int .u64 0,.bool false,.int .i64 0,.int .i64 0,.int .i64 0,.int .u64 0,.bool false,.int .i64 0,.int .i64 0,.int .i64 0,.int .u64 0,.bool false,.int .i64 0,.int .i64 0,.int .i64 0,.int .u64 0,.bool false,.int .i64 0,.int .i64 0,.int .i64 0] [(80,none,a0)] fun c11=>
Zn (.agg c11.toArray) fun c12=>
Zq c12 .exact g n fun l12 g1 n12=>
Jc K (.tuple #[ptr l12 0,.int .i64 0]) g1 n12))
theorem Zew (C:CT) (a0:Value) (g:G) (n:Nat) (K:Cont):ZeM C a0 g n K=Je Tryz.prog C Zb2 [a0] g n K:=by kernel_rfl
def ZS (C:CT) (K:Cont) (t:Env) (g:G) (n:Nat):Prop:=
Qd (t 1) fun l14 o14=>
kLd g l14 (o14+0) fun v15=>
Qao .u64 v15 fun v16=>
Qd (t 1) fun l17 o17=>
kLd g l17 (o17+1) fun v18=>
Qao .u64 v18 fun v19=>
Jb .int .shl v19 (.int .u64 8) fun v20=>
Jb .int .add v16 v20 fun v21=>
Qd (t 1) fun l22 o22=>
kLd g l22 (o22+2) fun v23=>
Qao .u64 v23 fun v24=>
Jb .int .shl v24 (.int .u64 12) fun v25=>
Jb .int .add v21 v25 fun v26=>
Qd (t 1) fun l27 o27=>
kLd g l27 (o27+3) fun v28=>
Qao .u64 v28 fun v29=>
Jb .int .shl v29 (.int .u64 16) fun v30=>
Jb .int .add v26 v30 fun v31=>
Qao .u64 (t 4) fun v33=>
Jb .int .shl v33 (.int .u64 32) fun v34=>
Jb .int .add v31 v34 fun v35=>
Jc K (.tuple #[v35,.int .i64 0]) g n
def XaV (C:CT) (a0:Value) (g:G) (n:Nat) (K:Cont):Prop:=
Zn a0 fun c1=>
Zq c1 .exact g n fun l1 g1 n1=>
Zo g1 l1 0 5 fun c5=>
C Qal [.agg c5.toArray] g1 n1 fun v6 g2 n6=>
kUn .not v6 fun v7=>
Qa v7 (
Jc K (.tuple #[.int .u64 0,.int .i64 11]) g2 n6) (
kLd g2 l1 (0+4) fun v9=>
Jb .int .lss v9 (.int .i64 0) fun v11=>
Qa v11 (
Jb .int .add v9 (.int .i64 4294967296) fun v13=>
ZS C K (puts (Jj [a0]) [(1,ptr l1 0),(2,.int .u64 0),(3,.int .i64 0),(5,.agg c5.toArray),(6,v6),(7,v7),(8,(ptr l1 (0+4))),(9,v9),(4,v9),(10,v9),(11,v11),(12,v9),(13,v13),(4,v13)]) g2 n6) (
ZS C K (puts (Jj [a0]) [(1,ptr l1 0),(2,.int .u64 0),(3,.int .i64 0),(5,.agg c5.toArray),(6,v6),(7,v7),(8,(ptr l1 (0+4))),(9,v9),(4,v9),(10,v9),(11,v11)]) g2 n6))
theorem Zbz (C:CT) (a0:Value) (g:G) (n:Nat) (K:Cont):XaV C a0 g n K=Je Tryz.prog C Zac [a0] g n K:=by kernel_rfl
def Qcp (C:CT) (a0:Value) (g:G) (n:Nat) (K:Cont):Prop:=
isCell a0=true∧Zq [a0] .exact g n fun l1 g1 n1=>
Zq [.int .i64 0,.int .i64 0,.int .i64 0,.int .i64 0,.int .i64 0] .exact g1 n1 fun l2 g2 n2=>
kLd g2 l1 0 fun v4=>
Jg v4 fun v5=>
Qd v5 fun l6 o6=>
C XaU [(ptr l6 (o6+0)),(.func (.func XaC) #[] #[ptr l1 0])] g2 n2 fun v8 g3 n8=>
kLd g3 l1 0 fun v9=>
Jg v9 fun v10=>
Qd v10 fun l11 o11=>
Zo g3 l11 (o11+4) 5 fun c12=>
kLd g3 l1 0 fun v13=>
Jg v13 fun v14=>
Qd v14 fun l15 o15=>
kLd g3 l15 (o15+9) fun v16=>
Zn (.agg c12.toArray) fun cg4=>
cg4.length=5∧Xu g3 l2 0 cg4 fun g4=>
(Qd (ptr l1 0) fun l _=>g4 l=g3 l)∧(Qd (ptr l15 (o15+9)) fun l _=>g4 l=g3 l)∧Zo g4 l2 0 5 fun r0=>
Jc K (.tuple #[.agg r0.toArray,v16]) g4 n8
theorem XcK (C:CT) (a0:Value) (g:G) (n:Nat) (K:Cont):Qcp C a0 g n K=Je Tryz.prog C ZaN [a0] g n K:=by kernel_rfl
def ZbW (C:CT) (a0:Value) (g:G) (n:Nat) (K:Cont):Prop:=
C Ql [a0,.int .i64 10,.int .i64 0,.int .i64 0,.int .u64 0] g n fun v3 g1 n3=>
Jg a0 fun v5=>
Qd v5 fun l6 o6=>
kLd g1 l6 (o6+0) fun v7=>
Jg v7 fun v8=>
Qd v8 fun l9 o9=>
kSt g1 l9 (o9+13) (.bool false) fun g2=>
Jc K (.tuple #[]) g2 n3
theorem Jcx (C:CT) (a0:Value) (g:G) (n:Nat) (K:Cont):ZbW C a0 g n K=Je Tryz.prog C Qak [a0] g n K:=by kernel_rfl
def Qay (C:CT) (K:Cont) (t:Env) (g:G) (n:Nat):Prop:=
Qa (t 50) (
C Xp [t 0] g n fun v54 g9 n54=>
Jc K (.tuple #[]) g9 n54) (
Jb .int .eql (t 15) (.int .i64 21) fun v56=>
Qa v56 (
Qd (t 3) fun l59 o59=>
kLd g l59 (o59+1) fun v60=>
Jg (t 2) fun v61=>
Ji v61 v60 8 1 fun v62=>
Qd v62 fun l63 o63=>
kLd g l63 o63 fun v63=>
C Ql [t 0,.int .i64 8,.int .i64 0,.int .i64 0,v63] g n fun v64 g10 n64=>
C Xq [t 0] g10 n64 fun v66 g11 n66=>
Jc K (.tuple #[]) g11 n66) (
Jb .int .eql (t 15) (.int .i64 22) fun v68=>
Qa v68 (
C Ql [t 0,.int .i64 9,.int .i64 0,.int .i64 0,.int .u64 0] g n fun v70 g12 n70=>
Jg (t 0) fun v72=>
Qd v72 fun l73 o73=>
kLd g12 l73 (o73+0) fun v74=>
Jg v74 fun v75=>
Qd v75 fun l76 o76=>
kSt g12 l76 (o76+13) (.bool false) fun g13=>
Jc K (.tuple #[]) g13 n70) (
C Qas [t 0] g n fun v17 g14 n17=>
Jc K (.tuple #[]) g14 n17)))
def Xay (C:CT) (K:Cont) (t:Env) (g:G) (n:Nat):Prop:=
Qa (t 45) (
C Jaz [t 0] g n fun v49 g8 n49=>
Jc K (.tuple #[]) g8 n49) (
Jb .int .eql (t 15) (.int .i64 10) fun v51=>
Qa v51 (
Qay C K (puts t [(51,v51),(50,v51)]) g n) (
Jb .int .eql (t 15) (.int .i64 11) fun v52=>
Qay C K (puts t [(51,v51),(50,v51),(52,v52),(50,v52)]) g n))
def Z4 (C:CT) (K:Cont) (t:Env) (g:G) (n:Nat):Prop:=
Qa (t 38) (
C Xv [t 0] g n fun v44 g7 n44=>
Jc K (.tuple #[]) g7 n44) (
Jb .int .eql (t 15) (.int .i64 15) fun v46=>
Qa v46 (
Xay C K (puts t [(46,v46),(45,v46)]) g n) (
Jb .int .eql (t 15) (.int .i64 16) fun v47=>
Xay C K (puts t [(46,v46),(45,v46),(47,v47),(45,v47)]) g n))
def XcA (C:CT) (a0:Value) (g:G) (n:Nat) (K:Cont):Prop:=
Jg a0 fun v5=>
Qd v5 fun l6 o6=>
kLd g l6 (o6+0) fun v7=>
Jg v7 fun v8=>
Qd v8 fun l9 o9=>
Jg a0 fun v11=>
Qd v11 fun l12 o12=>
Zo g l12 (o12+2) 5 fun c13=>
Zq [.int .i64 0,.int .i64 0,.int .i64 0,.int .i64 0,.int .i64 0] .exact g n fun l3 g1 n3=>
Zn (.agg c13.toArray) fun cg2=>
cg2.length=5∧Xu g1 l3 0 cg2 fun g2=>
kLd g2 l3 (0+0) fun v15=>
Jb .int .eql v15 (.int .i64 0) fun v19=>
Qa v19 (
C Xq [a0] g2 n3 fun v21 g3 n21=>
Jc K (.tuple #[]) g3 n21) (
Jb .int .eql v15 (.int .i64 1) fun v23=>
Qa v23 (
kLd g2 l3 (0+1) fun v26=>
kLd g2 l3 (0+4) fun v28=>
Qao .u64 v28 fun v29=>
Ji (ptr l9 (o9+1)) v26 8 1 fun v31=>
Qd v31 fun lg4 og4=>
kSt g2 lg4 og4 v29 fun g4=>
C Xq [a0] g4 n3 fun v33 g5 n33=>
Jc K (.tuple #[]) g5 n33) (
Jb .int .eql v15 (.int .i64 8) fun v35=>
Qa v35 (
C QaE [a0] g2 n3 fun v37 g6 n37=>
Jc K (.tuple #[]) g6 n37) (
Jb .int .eql v15 (.int .i64 9) fun v39=>
Qa v39 (
Z4 C K (puts (Jj [a0]) [(4,a0),(5,v5),(6,(ptr l6 (o6+0))),(7,v7),(8,v8),(9,(ptr l9 (o9+1))),(2,(ptr l9 (o9+1))),(10,a0),(11,v11),(12,(ptr l12 (o12+2))),(13,.agg c13.toArray),(3,ptr l3 0),(14,(ptr l3 (0+0))),(15,v15),(19,v19),(18,v19),(23,v23),(22,v23),(35,v35),(34,v35),(39,v39),(38,v39)]) g2 n3) (
Jb .int .eql v15 (.int .i64 12) fun v40=>
Qa v40 (
Z4 C K (puts (Jj [a0]) [(4,a0),(5,v5),(6,(ptr l6 (o6+0))),(7,v7),(8,v8),(9,(ptr l9 (o9+1))),(2,(ptr l9 (o9+1))),(10,a0),(11,v11),(12,(ptr l12 (o12+2))),(13,.agg c13.toArray),(3,ptr l3 0),(14,(ptr l3 (0+0))),(15,v15),(19,v19),(18,v19),(23,v23),(22,v23),(35,v35),(34,v35),(39,v39),(38,v39),(40,v40),(38,v40)]) g2 n3) (
Jb .int .eql v15 (.int .i64 13) fun v41=>
Qa v41 (
Z4 C K (puts (Jj [a0]) [(4,a0),(5,v5),(6,(ptr l6 (o6+0))),(7,v7),(8,v8),(9,(ptr l9 (o9+1))),(2,(ptr l9 (o9+1))),(10,a0),(11,v11),(12,(ptr l12 (o12+2))),(13,.agg c13.toArray),(3,ptr l3 0),(14,(ptr l3 (0+0))),(15,v15),(19,v19),(18,v19),(23,v23),(22,v23),(35,v35),(34,v35),(39,v39),(38,v39),(40,v40),(38,v40),(41,v41),(38,v41)]) g2 n3) (
Jb .int .eql v15 (.int .i64 14) fun v42=>
Z4 C K (puts (Jj [a0]) [(4,a0),(5,v5),(6,(ptr l6 (o6+0))),(7,v7),(8,v8),(9,(ptr l9 (o9+1))),(2,(ptr l9 (o9+1))),(10,a0),(11,v11),(12,(ptr l12 (o12+2))),(13,.agg c13.toArray),(3,ptr l3 0),(14,(ptr l3 (0+0))),(15,v15),(19,v19),(18,v19),(23,v23),(22,v23),(35,v35),(34,v35),(39,v39),(38,v39),(40,v40),(38,v40),(41,v41),(38,v41),(42,v42),(38,v42)]) g2 n3))))))
theorem Zc5 (C:CT) (a0:Value) (g:G) (n:Nat) (K:Cont):XcA C a0 g n K=Je Tryz.prog C XaX [a0] g n K:=by kernel_rfl
def Qa1 (C:CT) (K:Cont) (I_l1:Qj) (t:Env) (g:G) (n:Nat):Prop:=
Jb .int .lss (t 7) (t 6) fun v8=>
Qa v8 (
Jg (t 0) fun v15=>
Qd v15 fun l16 o16=>
C JA [t 0,t 7] g n fun v14 g2 n14=>
Ji (ptr l16 (o16+0)) v14 16 5 fun v17=>
Qd v17 fun l18 o18=>
Zo g2 l18 o18 5 fun c18=>
Xf (reps 1 [.int .i64 0,.int .i64 0,.int .i64 0,.int .u64 0,.bool false]) [(0,some 5,.agg c18.toArray)] fun c19=>
Zq c19 .exact g2 n14 fun l19 g3 n19=>
Zt (t 3) (.slice (some ⟨l19,0,none⟩) 1 1) 5 40 g3 n19 fun v20 g4 n20=>
Jb .int .add (t 7) (.int .i64 1) fun v21=>
I_l1 (puts t [(8,v8),(9,t 7),(4,t 7),(10,t 3),(11,t 0),(12,t 0),(13,t 7),(15,v15),(16,(ptr l16 (o16+0))),(14,v14),(17,v17),(18,.agg c18.toArray),(19,(.slice (some ⟨l19,0,none⟩) 1 1)),(20,v20),(3,v20),(21,v21),(7,v21)]) g4 n20) (
Jc K (t 3) g n)
def JbF (C:CT) (a0:Value) (g:G) (n:Nat) (K:Cont):Prop:=
C JC [a0] g n fun v6 g1 n6=>
lfp (Qa1 C K) (puts (Jj [a0]) [(2,.slice none 0 0),(3,.slice none 0 0),(5,a0),(6,v6),(7,.int .i64 0)]) g1 n6
theorem Jcb (C:CT) (a0:Value) (g:G) (n:Nat) (K:Cont):JbF C a0 g n K=Je Tryz.prog C ZaE [a0] g n K:=by kernel_rfl
def Jbu (C:CT) (a0:Value) (g:G) (n:Nat) (K:Cont):Prop:=
Zq [.int .i64 0,.int .i64 0,.int .i64 0,.int .u64 0,.bool false] .exact g n fun l2 g1 n2=>
C JC [a0] g1 n2 fun v5 g2 n5=>
Jb .int .eql v5 (.int .i64 0) fun v6=>
Qa v6 (
Xf [.int .i64 0,.int .i64 0,.int .i64 0,.int .u64 0,.bool false] [] fun c7=>
Zn (.agg c7.toArray) fun cg3=>
cg3.length=5∧Xu g2 l2 0 cg3 fun g3=>
Zo g3 l2 0 5 fun r0=>
Jc K (.tuple #[.agg r0.toArray,.bool false]) g3 n5) (
Jg a0 fun v10=>
Qd v10 fun l11 o11=>
kLd g2 l11 (o11+81) fun v12=>
Jg a0 fun v13=>
Qd v13 fun l14 o14=>
Ji (ptr l14 (o14+0)) v12 16 5 fun v15=>
Qd v15 fun l16 o16=>
Zo g2 l16 o16 5 fun c16=>
Zn (.agg c16.toArray) fun cg4=>
cg4.length=5∧Xu g2 l2 0 cg4 fun g4=>
Zo g4 l2 0 5 fun r0=>
Jc K (.tuple #[.agg r0.toArray,.bool true]) g4 n5)
theorem Qb9 (C:CT) (a0:Value) (g:G) (n:Nat) (K:Cont):Jbu C a0 g n K=Je Tryz.prog C JF [a0] g n K:=by kernel_rfl
def Zbg (C:CT) (a0 a1 a2 a3 a4:Value) (g:G) (n:Nat) (K:Cont):Prop:=
C Xt [a0,a1] g n fun v16 g1 n16=>
Jb .ptr .eql v16 (.pointer none) fun v18=>
Qa v18 (
Jc K (.bool false) g1 n16) (
C Qv [a0,a2] g1 n16 fun v22 g2 n22=>
kUn .not v22 fun v23=>
Qa v23 (
Jc K (.bool false) g2 n22) (
Jg v16 fun v27=>
Qd v27 fun l28 o28=>
kLd g2 l28 (o28+0) fun v29=>
C Xak [v29,a2,a3,a4] g2 n22 fun v33 g3 n33=>
Xc v33 0 fun v34=>
Xc v33 1 fun v35=>
C Jaa [v16,v35] g3 n33 fun v38 g4 n38=>
Jc K v34 g4 n38))
theorem XbR (C:CT) (a0 a1 a2 a3 a4:Value) (g:G) (n:Nat) (K:Cont):Zbg C a0 a1 a2 a3 a4 g n K=Je Tryz.prog C JZ [a0,a1,a2,a3,a4] g n K:=by kernel_rfl
def QbB (C:CT) (a0 a1 a2 a3 a4:Value) (g:G) (n:Nat) (K:Cont):Prop:=
Jg a0 fun v12=>
Qd v12 fun l13 o13=>
kLd g l13 (o13+7) fun v14=>
Jg a0 fun v17=>
Qd v17 fun l18 o18=>
kLd g l18 (o18+0) fun v19=>
Jg v19 fun v20=>
Qd v20 fun l21 o21=>
kLd g l21 (o21+0) fun v22=>
Xf [.int .i64 0,.int .i64 0,.int .i64 0,.int .i64 0,.int .u64 0] [(0,none,a1),(1,none,v22),(2,none,a2),(3,none,a3),(4,none,a4)] fun c26=>
Xf (reps 1 [.int .i64 0,.int .i64 0,.int .i64 0,.int .i64 0,.int .u64 0]) [(0,some 5,.agg c26.toArray)] fun c27=>
Zq c27 .exact g n fun l27 g1 n27=>
(Qd (ptr l13 (o13+7)) fun l _=>g1 l=g l)∧Zt v14 (.slice (some ⟨l27,0,none⟩) 1 1) 5 40 g1 n27 fun v28 g2 n28=>
Jg a0 fun v29=>
Qd v29 fun l30 o30=>
kSt g2 l30 (o30+7) v28 fun g3=>
Jc K (.tuple #[]) g3 n28
theorem Zcc (C:CT) (a0 a1 a2 a3 a4:Value) (g:G) (n:Nat) (K:Cont):QbB C a0 a1 a2 a3 a4 g n K=Je Tryz.prog C Ql [a0,a1,a2,a3,a4] g n K:=by kernel_rfl
def JbD (C:CT) (a0 a1 a2:Value) (g:G) (n:Nat) (K:Cont):Prop:=
Jg a0 fun v8=>
Qd v8 fun l9 o9=>
kLd g l9 (o9+0) fun v10=>
Jg v10 fun v11=>
Qd v11 fun l12 o12=>
kLd g l12 (o12+12) fun v13=>
Jb .int .geq v13 (.int .i64 16) fun v14=>
Qa v14 (
Jc K (.bool false) g n) (
Jg a0 fun v17=>
Qd v17 fun l18 o18=>
kLd g l18 (o18+1) fun v19=>
Jg a0 fun v21=>
Qd v21 fun l22 o22=>
kLd g l22 (o22+0) fun v23=>
Jg v23 fun v24=>
Qd v24 fun l25 o25=>
kLd g l25 (o25+0) fun v26=>
C Xal [v19,v26,a1,a2] g n fun v29 g1 n29=>
Jb .int .neq v29 (.int .i64 0) fun v30=>
Qa v30 (
Jc K (.bool false) g1 n29) (
C Ql [a0,.int .i64 13,a1,.int .i64 0,.int .u64 0] g1 n29 fun v34 g2 n34=>
Jg a0 fun v36=>
Qd v36 fun l37 o37=>
kLd g2 l37 (o37+0) fun v38=>
Jg v38 fun v39=>
Qd v39 fun l40 o40=>
kLd g2 l40 (o40+12) fun v41=>
Jb .int .add v41 (.int .i64 1) fun v42=>
Jg v38 fun v43=>
Qd v43 fun l44 o44=>
kSt g2 l44 (o44+12) v42 fun g3=>
Jc K (.bool true) g3 n34))
theorem Xce (C:CT) (a0 a1 a2:Value) (g:G) (n:Nat) (K:Cont):JbD C a0 a1 a2 g n K=Je Tryz.prog C JI [a0,a1,a2] g n K:=by kernel_rfl
def Qbu (C:CT) (a0:Value) (g:G) (n:Nat) (K:Cont):Prop:=
C JF [a0] g n fun v6 g1 n6=>
Xc v6 0 fun v7=>
Xc v6 1 fun v8=>
Zq [.int .i64 0,.int .i64 0,.int .i64 0,.int .u64 0,.bool false] .exact g1 n6 fun l2 g2 n2=>
Zn v7 fun cg3=>
cg3.length=5∧Xu g2 l2 0 cg3 fun g3=>
Qa v8 (
kLd g3 l2 (0+0) fun v12=>
Jb .int .eql v12 (.int .i64 14) fun v13=>
Qa v13 (
Jg a0 fun v17=>
Qd v17 fun l18 o18=>
kLd g3 l18 (o18+81) fun v19=>
Jg a0 fun v20=>
Qd v20 fun l21 o21=>
Ji (ptr l21 (o21+0)) v19 16 5 fun v22=>
Qd v22 fun l23 o23=>
kSt g3 l23 (o23+4) (.bool true) fun g4=>
Jc K (.tuple #[]) g4 n2) (
Jc K (.tuple #[]) g3 n2)) (
Jc K (.tuple #[]) g3 n2)
theorem Xb9 (C:CT) (a0:Value) (g:G) (n:Nat) (K:Cont):Qbu C a0 g n K=Je Tryz.prog C J6 [a0] g n K:=by kernel_rfl
def Jae (C:CT) (K:Cont) (t:Env) (g:G) (n:Nat):Prop:=
Qd (t 4) fun l34 o34=>
Zo g l34 o34 5 fun c34=>
Qd (t 2) fun lg9 og9=>
Zn (.agg c34.toArray) fun cg9=>
cg9.length=5∧Xu g lg9 og9 cg9 fun g9=>
Qd (t 2) fun lr0 or0=>
Zo g9 lr0 or0 5 fun r0=>
Jc K (.tuple #[.agg r0.toArray,t 5]) g9 n
def ZbK (C:CT) (a0:Value) (g:G) (n:Nat) (K:Cont):Prop:=
Zq [.int .i64 0,.int .i64 0,.int .i64 0,.int .u64 0,.bool false] .exact g n fun l2 g1 n2=>
C JF [a0] g1 n2 fun v8 g2 n8=>
Xc v8 0 fun v9=>
Xc v8 1 fun v10=>
Zq [.int .i64 0,.int .i64 0,.int .i64 0,.int .u64 0,.bool false] .exact g2 n8 fun l4 g3 n4=>
Zn v9 fun cg4=>
cg4.length=5∧Xu g3 l4 0 cg4 fun g4=>
Qa v10 (
Jg a0 fun v14=>
Qd v14 fun l15 o15=>
kLd g4 l15 (o15+81) fun v16=>
Xf [.int .i64 0,.int .i64 0,.int .i64 0,.int .u64 0,.bool false] [] fun c17=>
Jg a0 fun v18=>
Qd v18 fun l19 o19=>
Ji (ptr l19 (o19+0)) v16 16 5 fun v20=>
Qd v20 fun lg5 og5=>
Zn (.agg c17.toArray) fun cg5=>
cg5.length=5∧Xu g4 lg5 og5 cg5 fun g5=>
Jg a0 fun v26=>
Qd v26 fun l27 o27=>
kLd g5 l27 (o27+82) fun v28=>
Jb .int .sub v28 (.int .i64 1) fun v29=>
C JA [a0,.int .i64 1] g5 n4 fun v24 g6 n24=>
(Qd (ptr l27 (o27+82)) fun l _=>g6 l=g5 l)∧Jg a0 fun v30=>
Qd v30 fun l31 o31=>
kSt g6 l31 (o31+81) v24 fun g7=>
Jg a0 fun v32=>
Qd v32 fun l33 o33=>
kSt g7 l33 (o33+82) v29 fun g8=>
Jae C K (puts (Jj [a0]) [(2,ptr l2 0),(3,.bool false),(7,a0),(8,v8),(6,v8),(9,v9),(10,v10),(4,ptr l4 0),(5,v10),(11,v10),(12,a0),(13,a0),(14,v14),(15,(ptr l15 (o15+81))),(16,v16),(17,.agg c17.toArray),(18,v18),(19,(ptr l19 (o19+0))),(20,v20),(21,a0),(22,a0),(23,a0),(25,a0),(26,v26),(27,(ptr l27 (o27+82))),(28,v28),(29,v29),(24,v24),(30,v30),(31,(ptr l31 (o31+81))),(32,v32),(33,(ptr l33 (o33+82)))]) g8 n24) (
Jae C K (puts (Jj [a0]) [(2,ptr l2 0),(3,.bool false),(7,a0),(8,v8),(6,v8),(9,v9),(10,v10),(4,ptr l4 0),(5,v10),(11,v10)]) g4 n4)
theorem Zcq (C:CT) (a0:Value) (g:G) (n:Nat) (K:Cont):ZbK C a0 g n K=Je Tryz.prog C QaB [a0] g n K:=by kernel_rfl
def XbX (C:CT) (a0 a1:Value) (g:G) (n:Nat) (K:Cont):Prop:=
Jb .ptr .eql a0 (.pointer none) fun v6=>
Qa v6 (
Jc K (.pointer none) g n) (
Jb .int .lss a1 (.int .i64 0) fun v9=>
Qa v9 (
Jc K (.pointer none) g n) (
Jg a0 fun v14=>
Qd v14 fun l15 o15=>
kLd g l15 (o15+7) fun v16=>
Jaw v16 fun v17=>
Jb .int .geq a1 v17 fun v18=>
Qa v18 (
Jc K (.pointer none) g n) (
Jg a0 fun v21=>
Qd v21 fun l22 o22=>
C ZB [(ptr l22 (o22+10)),.int .i64 1] g n fun v23 g1 n23=>
Jg a0 fun v25=>
Qd v25 fun l26 o26=>
kLd g1 l26 (o26+7) fun v27=>
Xd v27 a1 4 fun v29=>
Jc K v29 g1 n23)))
theorem Xct (C:CT) (a0 a1:Value) (g:G) (n:Nat) (K:Cont):XbX C a0 a1 g n K=Je Tryz.prog C Xt [a0,a1] g n K:=by kernel_rfl
def JbY (C:CT) (a0:Value) (g:G) (n:Nat) (K:Cont):Prop:=
Zq [.int .i64 0,.int .i64 0,.bool false,.bool false,.int .u64 0,.int .u64 0,.int .u64 0,.int .u64 0,.int .u64 0,.int .u64 0,.int .u64 0,.int .u64 0] .exact g n fun l2 g1 n2=>
C Zaq [a0] g1 n2 fun v5 g2 n5=>
Jb .int .eql v5 (.int .i64 0) fun v6=>
Qa v6 (
Xf [.int .i64 0,.int .i64 0,.bool false,.bool false,.int .u64 0,.int .u64 0,.int .u64 0,.int .u64 0,.int .u64 0,.int .u64 0,.int .u64 0,.int .u64 0] [] fun c7=>
Zn (.agg c7.toArray) fun cg3=>
cg3.length=12∧Xu g2 l2 0 cg3 fun g3=>
Zo g3 l2 0 12 fun r0=>
Jc K (.tuple #[.agg r0.toArray,.bool false]) g3 n5) (
Jg a0 fun v9=>
Qd v9 fun l10 o10=>
kLd g2 l10 (o10+0) fun v11=>
Xd v11 (.int .i64 0) 12 fun v12=>
Qd v12 fun l13 o13=>
Zo g2 l13 o13 12 fun c13=>
Zn (.agg c13.toArray) fun cg4=>
cg4.length=12∧Xu g2 l2 0 cg4 fun g4=>
Zo g4 l2 0 12 fun r0=>
Jc K (.tuple #[.agg r0.toArray,.bool true]) g4 n5)
theorem Qcr (C:CT) (a0:Value) (g:G) (n:Nat) (K:Cont):JbY C a0 g n K=Je Tryz.prog C X2 [a0] g n K:=by kernel_rfl
def Qbv (C:CT) (a0 a1:Value) (g:G) (n:Nat) (K:Cont):Prop:=
Jg a0 fun v6=>
Qd v6 fun l7 o7=>
kLd g l7 (o7+8) fun v8=>
Xd v8 a1 15 fun v10=>
Jg v10 fun v12=>
Qd v12 fun l13 o13=>
kLd g l13 (o13+0) fun v14=>
kUn .not v14 fun v15=>
Qa v15 (
Jg a0 fun v19=>
Qd v19 fun l20 o20=>
kLd g l20 (o20+9) fun v21=>
C Qbg [v21,a1] g n fun v23 g1 n23=>
Xc v23 0 fun v24=>
Xc v23 1 fun v25=>
Jg v10 fun v26=>
Qd v26 fun l27 o27=>
Zn v24 fun cg2=>
cg2.length=8∧Xu g1 l27 (o27+2) cg2 fun g2=>
Jg v10 fun v29=>
Qd v29 fun l30 o30=>
kSt g2 l30 (o30+0) (.bool true) fun g3=>
Jc K (.tuple #[]) g3 n23) (
Jc K (.tuple #[]) g n)
theorem Qb3 (C:CT) (a0 a1:Value) (g:G) (n:Nat) (K:Cont):Qbv C a0 a1 g n K=Je Tryz.prog C Zav [a0,a1] g n K:=by kernel_rfl
def QfP (C:CT) (a0 a1 a2:Value) (g:G) (n:Nat) (K:Cont):Prop:=
Zn a0 fun c3=>
Zq c3 .exact g n fun l3 g1 n3=>
Zn a2 fun c5=>
Zq c5 .exact g1 n3 fun l5 g2 n5=>
Zq [.bool false,.bool false,.int .u64 0,.int .u64 0,.int .u64 0,.int .u64 0,.int .u64 0,.int .u64 0,.int .u64 0,.int .u64 0,.int .i64 0,.int .u8 0,.int .i64 0,.int .i64 0,.int .u8 0] .exact g2 n5 fun l6 g3 n6=>
Zo g3 l3 0 15 fun c11=>
C QaZ [.agg c11.toArray] g3 n6 fun v12 g4 n12=>
kUn .not v12 fun v13=>
Qa v13 (
Xf [.bool false,.bool false,.int .u64 0,.int .u64 0,.int .u64 0,.int .u64 0,.int .u64 0,.int .u64 0,.int .u64 0,.int .u64 0,.int .i64 0,.int .u8 0,.int .i64 0,.int .i64 0,.int .u8 0] [] fun c30=>
Zn (.agg c30.toArray) fun cg5=>
cg5.length=15∧Xu g4 l6 0 cg5 fun g5=>
Zo g5 l6 0 15 fun r0=>
Jc K (.tuple #[.agg r0.toArray,.slice none 0 0,.int .i64 1]) g5 n12) (
C ZaG [a1] g4 n12 fun v16 g6 n16=>
kUn .not v16 fun v17=>
Qa v17 (
Xf [.bool false,.bool false,.int .u64 0,.int .u64 0,.int .u64 0,.int .u64 0,.int .u64 0,.int .u64 0,.int .u64 0,.int .u64 0,.int .i64 0,.int .u8 0,.int .i64 0,.int .i64 0,.int .u8 0] [] fun c30=>
Zn (.agg c30.toArray) fun cg7=>
cg7.length=15∧Xu g6 l6 0 cg7 fun g7=>
Zo g7 l6 0 15 fun r0=>
Jc K (.tuple #[.agg r0.toArray,.slice none 0 0,.int .i64 1]) g7 n16) (
Zo g6 l5 0 12 fun c20=>
C XaE [.agg c20.toArray] g6 n16 fun v21 g8 n21=>
kUn .not v21 fun v22=>
Qa v22 (
Xf [.bool false,.bool false,.int .u64 0,.int .u64 0,.int .u64 0,.int .u64 0,.int .u64 0,.int .u64 0,.int .u64 0,.int .u64 0,.int .i64 0,.int .u8 0,.int .i64 0,.int .i64 0,.int .u8 0] [] fun c30=>
Zn (.agg c30.toArray) fun cg9=>
cg9.length=15∧Xu g8 l6 0 cg9 fun g9=>
Zo g9 l6 0 15 fun r0=>
Jc K (.tuple #[.agg r0.toArray,.slice none 0 0,.int .i64 1]) g9 n21) (
kLd g8 l5 (0+0) fun v26=>
C Xb8 [v26] g8 n21 fun v27 g10 n27=>
kUn .not v27 fun v28=>
Qa v28 (
Xf [.bool false,.bool false,.int .u64 0,.int .u64 0,.int .u64 0,.int .u64 0,.int .u64 0,.int .u64 0,.int .u64 0,.int .u64 0,.int .i64 0,.int .u8 0,.int .i64 0,.int .i64 0,.int .u8 0] [] fun c30=>
Zn (.agg c30.toArray) fun cg11=>
cg11.length=15∧Xu g10 l6 0 cg11 fun g11=>
Zo g11 l6 0 15 fun r0=>
Jc K (.tuple #[.agg r0.toArray,.slice none 0 0,.int .i64 1]) g11 n27) (
kLd g10 l3 (0+12) fun v33=>
Jb .int .neq v33 (.int .i64 0) fun v34=>
Qa v34 (
Xf [.bool false,.bool false,.int .u64 0,.int .u64 0,.int .u64 0,.int .u64 0,.int .u64 0,.int .u64 0,.int .u64 0,.int .u64 0,.int .i64 0,.int .u8 0,.int .i64 0,.int .i64 0,.int .u8 0] [] fun c35=>
Zn (.agg c35.toArray) fun cg12=>
cg12.length=15∧Xu g10 l6 0 cg12 fun g12=>
Zo g12 l6 0 15 fun r0=>
Jc K (.tuple #[.agg r0.toArray,.slice none 0 0,.int .i64 15]) g12 n27) (
kLd g10 l3 (0+0) fun v38=>
kUn .not v38 fun v39=>
Qa v39 (
Xf [.bool false,.bool false,.int .u64 0,.int .u64 0,.int .u64 0,.int .u64 0,.int .u64 0,.int .u64 0,.int .u64 0,.int .u64 0,.int .i64 0,.int .u8 0,.int .i64 0,.int .i64 0,.int .u8 0] [] fun c40=>
Zn (.agg c40.toArray) fun cg13=>
cg13.length=15∧Xu g10 l6 0 cg13 fun g13=>
Zo g13 l6 0 15 fun r0=>
Jc K (.tuple #[.agg r0.toArray,.slice none 0 0,.int .i64 16]) g13 n27) (
Zo g10 l3 0 15 fun c41=>
kLd g10 l5 (0+1) fun v43=>
Xf [.bool false,.bool false,.int .u64 0,.int .u64 0,.int .u64 0,.int .u64 0,.int .u64 0,.int .u64 0,.int .u64 0,.int .u64 0,.int .i64 0,.int .u8 0,.int .i64 0,.int .i64 0,.int .u8 0,.int .i64 0,.slice none 0 0] [(0,some 15,.agg c41.toArray),(15,none,v43)] fun c44=>
Zn (.agg c44.toArray) fun c45=>
Zq c45 .exact g10 n27 fun l45 g14 n45=>
kLd g14 l5 (0+0) fun v48=>
Zo g14 l5 0 12 fun c52=>
C Zb0 [] g14 n45 fun v46 g15 n46=>
(Qd (ptr l5 (0+0)) fun l _=>g15 l=g14 l)∧(Qd (ptr l5 0) fun l _=>g15 l=g14 l)∧ZdB v46 v48 6 1 none fun v49=>
Qbh C v49 [ptr l45 0,a1,.agg c52.toArray] g15 n46 fun v53 g16 n53=>
Zo g16 l45 (0+0) 15 fun c57=>
kLd g16 l45 (0+16) fun v61=>
Zn (.agg c57.toArray) fun cg17=>
cg17.length=15∧Xu g16 l6 0 cg17 fun g17=>
(Qd (ptr l45 (0+16)) fun l _=>g17 l=g16 l)∧Zo g17 l6 0 15 fun r0=>
Jc K (.tuple #[.agg r0.toArray,v61,.int .i64 0]) g17 n53))))))
theorem Xfg (C:CT) (a0 a1 a2:Value) (g:G) (n:Nat) (K:Cont):QfP C a0 a1 a2 g n K=Je Tryz.prog C ZbP [a0,a1,a2] g n K:=by kernel_rfl
def Xap (C:CT) (K:Cont) (t:Env) (g:G) (n:Nat):Prop:=
Qd (t 4) fun l20 o20=>
Zo g l20 o20 12 fun c20=>
Qd (t 2) fun lg6 og6=>
Zn (.agg c20.toArray) fun cg6=>
cg6.length=12∧Xu g lg6 og6 cg6 fun g6=>
Qd (t 2) fun lr0 or0=>
Zo g6 lr0 or0 12 fun r0=>
Jc K (.tuple #[.agg r0.toArray,t 5]) g6 n
def Qcf (C:CT) (a0:Value) (g:G) (n:Nat) (K:Cont):Prop:=
Zq [.int .i64 0,.int .i64 0,.bool false,.bool false,.int .u64 0,.int .u64 0,.int .u64 0,.int .u64 0,.int .u64 0,.int .u64 0,.int .u64 0,.int .u64 0] .exact g n fun l2 g1 n2=>
C X2 [a0] g1 n2 fun v8 g2 n8=>
Xc v8 0 fun v9=>
Xc v8 1 fun v10=>
Zq [.int .i64 0,.int .i64 0,.bool false,.bool false,.int .u64 0,.int .u64 0,.int .u64 0,.int .u64 0,.int .u64 0,.int .u64 0,.int .u64 0,.int .u64 0] .exact g2 n8 fun l4 g3 n4=>
Zn v9 fun cg4=>
cg4.length=12∧Xu g3 l4 0 cg4 fun g4=>
Qa v10 (
Jg a0 fun v14=>
Qd v14 fun l15 o15=>
kLd g4 l15 (o15+0) fun v16=>
QA v16 (some (.int .i64 1)) none none 12 fun v17=>
Jg a0 fun v18=>
Qd v18 fun l19 o19=>
kSt g4 l19 (o19+0) v17 fun g5=>
Xap C K (puts (Jj [a0]) [(2,ptr l2 0),(3,.bool false),(7,a0),(8,v8),(6,v8),(9,v9),(10,v10),(4,ptr l4 0),(5,v10),(11,v10),(12,a0),(13,a0),(14,v14),(15,(ptr l15 (o15+0))),(16,v16),(17,v17),(18,v18),(19,(ptr l19 (o19+0)))]) g5 n4) (
Xap C K (puts (Jj [a0]) [(2,ptr l2 0),(3,.bool false),(7,a0),(8,v8),(6,v8),(9,v9),(10,v10),(4,ptr l4 0),(5,v10),(11,v10)]) g4 n4)
theorem JcK (C:CT) (a0:Value) (g:G) (n:Nat) (K:Cont):Qcf C a0 g n K=Je Tryz.prog C Jv [a0] g n K:=by kernel_rfl
def QaO (C:CT) (K:Cont) (I_l1:Qj) (t:Env) (g:G) (n:Nat):Prop:=
Jb .int .lss (t 11) (t 10) fun v12=>
Qa v12 (
Xd (t 9) (t 11) 13 fun v13=>
Qd v13 fun l14 o14=>
Zo g l14 o14 13 fun c14=>
Zq [.int .i64 0,.int .i64 0,.int .i64 0,.bool false,.bool false,.int .u64 0,.int .u64 0,.int .u64 0,.int .u64 0,.int .u64 0,.int .u64 0,.int .u64 0,.int .u64 0] .exact g n fun l7 g1 n7=>
Zn (.agg c14.toArray) fun cg2=>
cg2.length=13∧Xu g1 l7 0 cg2 fun g2=>
kSt g2 l7 (0+1+1) (t 2) fun g3=>
kLd g3 l7 (0+0) fun v20=>
C Xt [t 0,v20] g3 n7 fun v21 g4 n21=>
Jb .ptr .neq v21 (.pointer none) fun v23=>
Qa v23 (
Jg v21 fun v25=>
Qd v25 fun l26 o26=>
Zo g4 l7 (0+1) 12 fun c28=>
C Jq [(ptr l26 (o26+3)),.agg c28.toArray] g4 n21 fun v29 g5 n29=>
Jb .int .add (t 11) (.int .i64 1) fun v30=>
I_l1 (puts t [(12,v12),(13,v13),(14,.agg c14.toArray),(7,ptr l7 0),(15,t 2),(16,(ptr l7 (0+1))),(17,(ptr l7 (0+1+1))),(18,t 0),(19,(ptr l7 (0+0))),(20,v20),(21,v21),(8,v21),(22,v21),(23,v23),(24,v21),(25,v25),(26,(ptr l26 (o26+3))),(27,(ptr l7 (0+1))),(28,.agg c28.toArray),(29,v29),(30,v30),(11,v30)]) g5 n29) (
Jb .int .add (t 11) (.int .i64 1) fun v30=>
I_l1 (puts t [(12,v12),(13,v13),(14,.agg c14.toArray),(7,ptr l7 0),(15,t 2),(16,(ptr l7 (0+1))),(17,(ptr l7 (0+1+1))),(18,t 0),(19,(ptr l7 (0+0))),(20,v20),(21,v21),(8,v21),(22,v21),(23,v23),(30,v30),(11,v30)]) g4 n21)) (
Jc K (.tuple #[]) g n)
def Qa9 (C:CT) (a0 a1 a2:Value) (g:G) (n:Nat) (K:Cont):Prop:=
Jaw a1 fun v10=>
lfp (QaO C K) (puts (Jj [a0,a1,a2]) [(9,a1),(10,v10),(11,.int .i64 0)]) g n
theorem XbU (C:CT) (a0 a1 a2:Value) (g:G) (n:Nat) (K:Cont):Qa9 C a0 a1 a2 g n K=Je Tryz.prog C Xn [a0,a1,a2] g n K:=by kernel_rfl
def Q9 (C:CT) (K:Cont) (t:Env) (g:G) (n:Nat):Prop:=
Jg (t 0) fun v66=>
Qd v66 fun l67 o67=>
kLd g l67 (o67+0) fun v68=>
Qd (t 3) fun l69 o69=>
kLd g l69 (o69+1) fun v70=>
Qd (t 8) fun l72 o72=>
Zo g l72 o72 8 fun c72=>
C ZJ [v68,v70,t 7,.agg c72.toArray] g n fun v73 g14 n73=>
Qd (t 3) fun l74 o74=>
Zo g14 l74 o74 12 fun c74=>
Qd (t 6) fun l75 o75=>
Zo g14 l75 o75 11 fun c75=>
C QaA [.agg c74.toArray,.agg c75.toArray,t 7] g14 n73 fun v77 g15 n77=>
Jc K (.tuple #[v77,.int .i64 0]) g15 n77
def ZR (C:CT) (K:Cont) (t:Env) (g:G) (n:Nat):Prop:=
Qa (t 59) (
Qd (t 3) fun l63 o63=>
Zo g l63 (o63+4) 8 fun c64=>
Qd (t 8) fun lg13 og13=>
Zn (.agg c64.toArray) fun cg13=>
cg13.length=8∧Xu g lg13 og13 cg13 fun g13=>
Q9 C K (puts t [(63,(ptr l63 (o63+4))),(64,.agg c64.toArray)]) g13 n) (
Q9 C K t g n)
def Z8 (C:CT) (K:Cont) (t:Env) (g:G) (n:Nat):Prop:=
Qd (t 3) fun l57 o57=>
kLd g l57 (o57+0) fun v58=>
Jb .int .eql v58 (.int .i64 8) fun v60=>
Qa v60 (
ZR C K (puts t [(57,(ptr l57 (o57+0))),(58,v58),(60,v60),(59,v60)]) g n) (
Jb .int .eql v58 (.int .i64 9) fun v61=>
Qa v61 (
ZR C K (puts t [(57,(ptr l57 (o57+0))),(58,v58),(60,v60),(59,v60),(61,v61),(59,v61)]) g n) (
Jb .int .eql v58 (.int .i64 10) fun v62=>
ZR C K (puts t [(57,(ptr l57 (o57+0))),(58,v58),(60,v60),(59,v60),(61,v61),(59,v61),(62,v62),(59,v62)]) g n))
def X7 (C:CT) (K:Cont) (t:Env) (g:G) (n:Nat):Prop:=
Qa (t 53) (
Xf [.int .u64 0,.int .u64 0,.int .u64 0,.int .u64 0,.int .u64 0,.int .u64 0,.int .u64 0,.int .u64 0] [] fun c56=>
Qd (t 8) fun lg12 og12=>
Zn (.agg c56.toArray) fun cg12=>
cg12.length=8∧Xu g lg12 og12 cg12 fun g12=>
Z8 C K (puts t [(56,.agg c56.toArray)]) g12 n) (
Z8 C K t g n)
def Jbv (C:CT) (a0 a1:Value) (g:G) (n:Nat) (K:Cont):Prop:=
Zn a1 fun c3=>
Zq c3 .exact g n fun l3 g1 n3=>
Jb .ptr .eql a0 (.pointer none) fun v10=>
Qa v10 (
Jc K (.tuple #[.slice none 0 0,.int .i64 1]) g1 n3) (
Zo g1 l3 0 12 fun c12=>
C XaE [.agg c12.toArray] g1 n3 fun v13 g2 n13=>
kUn .not v13 fun v14=>
Qa v14 (
Jc K (.tuple #[.slice none 0 0,.int .i64 1]) g2 n13) (
kLd g2 l3 (0+0) fun v18=>
C ZbE [v18] g2 n13 fun v19 g3 n19=>
kUn .not v19 fun v20=>
Qa v20 (
Jc K (.tuple #[.slice none 0 0,.int .i64 1]) g3 n19) (
kLd g3 l3 (0+1) fun v24=>
C Zs [a0,v24] g3 n19 fun v25 g4 n25=>
Zq [.int .i64 0,.int .i64 0,.int .u64 0,.int .u64 0,.int .u64 0,.int .u64 0,.int .u64 0,.int .u64 0,.int .u64 0,.int .u64 0,.int .i64 0] .exact g4 n25 fun l6 g5 n6=>
Zn v25 fun cg6=>
cg6.length=11∧Xu g5 l6 0 cg6 fun g6=>
kLd g6 l3 (0+0) fun v28=>
kLd g6 l6 (0+0) fun v31=>
C XbW [] g6 n6 fun v26 g7 n26=>
(Qd (ptr l3 (0+0)) fun l _=>g7 l=g6 l)∧(Qd (ptr l6 (0+0)) fun l _=>g7 l=g6 l)∧ZdB v26 v28 15 10 (some 10) fun v29=>
ZdB v29 v31 10 1 none fun v32=>
Zo g7 l6 (0+2) 8 fun c34=>
Zq [.int .u64 0,.int .u64 0,.int .u64 0,.int .u64 0,.int .u64 0,.int .u64 0,.int .u64 0,.int .u64 0] .exact g7 n26 fun l8 g8 n8=>
Zn (.agg c34.toArray) fun cg9=>
cg9.length=8∧Xu g8 l8 0 cg9 fun g9=>
Jb .int .eql v32 (.int .i64 (-1)) fun v37=>
Qa v37 (
Jc K (.tuple #[.slice none 0 0,.int .i64 16]) g9 n8) (
Jb .int .eql v32 (.int .i64 (-2)) fun v39=>
Qa v39 (
Jc K (.tuple #[.slice none 0 0,.int .i64 0]) g9 n8) (
Jb .int .eql v32 (.int .i64 0) fun v41=>
Qa v41 (
Jg a0 fun v43=>
Qd v43 fun l44 o44=>
kLd g9 l44 (o44+0) fun v45=>
kLd g9 l3 (0+1) fun v47=>
C Jas [v45,v47] g9 n8 fun v48 g10 n48=>
Zo g10 l3 0 12 fun c49=>
Zo g10 l6 0 11 fun c50=>
C QaA [.agg c49.toArray,.agg c50.toArray,v32] g10 n48 fun v52 g11 n52=>
Jc K (.tuple #[v52,.int .i64 0]) g11 n52) (
Jb .int .eql v32 (.int .i64 5) fun v54=>
Qa v54 (
X7 C K (puts (Jj [a0,a1]) [(3,ptr l3 0),(4,.slice none 0 0),(5,.int .i64 0),(9,a0),(10,v10),(11,.bool false),(12,.agg c12.toArray),(13,v13),(14,v14),(15,v14),(16,.bool false),(17,(ptr l3 (0+0))),(18,v18),(19,v19),(20,v20),(21,v20),(22,a0),(23,(ptr l3 (0+1))),(24,v24),(25,v25),(6,ptr l6 0),(27,(ptr l3 (0+0))),(28,v28),(30,(ptr l6 (0+0))),(31,v31),(26,v26),(29,v29),(32,v32),(7,v32),(33,(ptr l6 (0+2))),(34,.agg c34.toArray),(8,ptr l8 0),(35,v32),(37,v37),(36,v37),(39,v39),(38,v39),(41,v41),(40,v41),(54,v54),(53,v54)]) g9 n8) (
Jb .int .eql v32 (.int .i64 8) fun v55=>
X7 C K (puts (Jj [a0,a1]) [(3,ptr l3 0),(4,.slice none 0 0),(5,.int .i64 0),(9,a0),(10,v10),(11,.bool false),(12,.agg c12.toArray),(13,v13),(14,v14),(15,v14),(16,.bool false),(17,(ptr l3 (0+0))),(18,v18),(19,v19),(20,v20),(21,v20),(22,a0),(23,(ptr l3 (0+1))),(24,v24),(25,v25),(6,ptr l6 0),(27,(ptr l3 (0+0))),(28,v28),(30,(ptr l6 (0+0))),(31,v31),(26,v26),(29,v29),(32,v32),(7,v32),(33,(ptr l6 (0+2))),(34,.agg c34.toArray),(8,ptr l8 0),(35,v32),(37,v37),(36,v37),(39,v39),(38,v39),(41,v41),(40,v41),(54,v54),(53,v54),(55,v55),(53,v55)]) g9 n8)))))))
theorem Jb0 (C:CT) (a0 a1:Value) (g:G) (n:Nat) (K:Cont):Jbv C a0 a1 g n K=Je Tryz.prog C Xat [a0,a1] g n K:=by kernel_rfl
def QbW (C:CT) (a0 a1:Value) (g:G) (n:Nat) (K:Cont):Prop:=
Zn a1 fun c3=>
Zq c3 .exact g n fun l3 g1 n3=>
Jb .ptr .eql a0 (.pointer none) fun v7=>
Qa v7 (
Jc K (.int .i64 1) g1 n3) (
Zo g1 l3 0 12 fun c9=>
C XaE [.agg c9.toArray] g1 n3 fun v10 g2 n10=>
kUn .not v10 fun v11=>
Qa v11 (
Jc K (.int .i64 11) g2 n10) (
Jg a0 fun v14=>
Qd v14 fun l15 o15=>
kLd g2 l15 (o15+0) fun v16=>
Jaw v16 fun v17=>
Jb .int .geq v17 (.int .i64 1000) fun v18=>
Qa v18 (
Jc K (.int .i64 13) g2 n10) (
Jg a0 fun v21=>
Qd v21 fun l22 o22=>
kLd g2 l22 (o22+0) fun v23=>
Zo g2 l3 0 12 fun c24=>
Xf (reps 1 [.int .i64 0,.int .i64 0,.bool false,.bool false,.int .u64 0,.int .u64 0,.int .u64 0,.int .u64 0,.int .u64 0,.int .u64 0,.int .u64 0,.int .u64 0]) [(0,some 12,.agg c24.toArray)] fun c25=>
Zq c25 .exact g2 n10 fun l25 g3 n25=>
(Qd (ptr l22 (o22+0)) fun l _=>g3 l=g2 l)∧Zt v23 (.slice (some ⟨l25,0,none⟩) 1 1) 12 88 g3 n25 fun v26 g4 n26=>
Jg a0 fun v27=>
Qd v27 fun l28 o28=>
kSt g4 l28 (o28+0) v26 fun g5=>
Jc K (.int .i64 0) g5 n26)))
theorem Qcv (C:CT) (a0 a1:Value) (g:G) (n:Nat) (K:Cont):QbW C a0 a1 g n K=Je Tryz.prog C Jq [a0,a1] g n K:=by kernel_rfl
def QbV (C:CT) (a0:Value) (g:G) (n:Nat) (K:Cont):Prop:=
Zq [.int .u64 0,.int .u64 0,.int .u64 0,.int .u64 0,.int .u64 0,.int .u64 0,.int .u64 0,.int .u64 0] .exact g n fun l2 g1 n2=>
Jb .ptr .eql a0 (.pointer none) fun v4=>
Qa v4 (
Xf [.int .u64 0,.int .u64 0,.int .u64 0,.int .u64 0,.int .u64 0,.int .u64 0,.int .u64 0,.int .u64 0] [] fun c5=>
Zn (.agg c5.toArray) fun cg2=>
cg2.length=8∧Xu g1 l2 0 cg2 fun g2=>
Zo g2 l2 0 8 fun r0=>
Jc K (.agg r0.toArray) g2 n2) (
Jg a0 fun v7=>
Qd v7 fun l8 o8=>
Zo g1 l8 (o8+1) 8 fun c9=>
Zn (.agg c9.toArray) fun cg3=>
cg3.length=8∧Xu g1 l2 0 cg3 fun g3=>
Zo g3 l2 0 8 fun r0=>
Jc K (.agg r0.toArray) g3 n2)
theorem Zct (C:CT) (a0:Value) (g:G) (n:Nat) (K:Cont):QbV C a0 g n K=Je Tryz.prog C QaG [a0] g n K:=by kernel_rfl
def JaA (C:CT) (K:Cont) (t:Env) (g:G) (n:Nat):Prop:=
Jg (t 9) fun v133=>
Qd v133 fun l134 o134=>
Zo g l134 (o134+0) 15 fun c135=>
Jg (t 9) fun v137=>
Qd v137 fun l138 o138=>
kLd g l138 (o138+16) fun v139=>
Qd (t 6) fun lg27 og27=>
Zn (.agg c135.toArray) fun cg27=>
cg27.length=15∧Xu g lg27 og27 cg27 fun g27=>
(Qd (ptr l138 (o138+16)) fun l _=>g27 l=g l)∧Qd (t 6) fun lr0 or0=>
Zo g27 lr0 or0 15 fun r0=>
Jc K (.tuple #[.agg r0.toArray,v139,.int .i64 0]) g27 n
def QaS (C:CT) (K:Cont) (t:Env) (g:G) (n:Nat):Prop:=
Jg (t 9) fun v99=>
Qd v99 fun l100 o100=>
kLd g l100 (o100+0+14) fun v102=>
Jb .int .neq v102 (.int .u8 0) fun v103=>
Qa v103 (
Jg (t 9) fun v105=>
Qd v105 fun l106 o106=>
Zo g l106 (o106+0) 15 fun c107=>
Qd (t 6) fun lg24 og24=>
Zn (.agg c107.toArray) fun cg24=>
cg24.length=15∧Xu g lg24 og24 cg24 fun g24=>
Qd (t 6) fun lr0 or0=>
Zo g24 lr0 or0 15 fun r0=>
Jc K (.tuple #[.agg r0.toArray,.slice none 0 0,.int .i64 0]) g24 n) (
Jg (t 9) fun v109=>
Qd v109 fun l110 o110=>
kLd g l110 (o110+0+13) fun v112=>
Jg (t 9) fun v114=>
Qd v114 fun l115 o115=>
kLd g l115 (o115+0+12) fun v117=>
Jb .int .eql v117 (.int .i64 1) fun v119=>
Qa v119 (
C Zaa [t 9] g n fun v121 g25 n121=>
C Qaa [t 9,v112] g25 n121 fun v124 g26 n124=>
JaA C K (puts t [(98,t 9),(99,v99),(100,(ptr l100 (o100+0))),(101,(ptr l100 (o100+0+14))),(102,v102),(103,v103),(108,t 9),(109,v109),(110,(ptr l110 (o110+0))),(111,(ptr l110 (o110+0+13))),(112,v112),(10,v112),(113,t 9),(114,v114),(115,(ptr l115 (o115+0))),(116,(ptr l115 (o115+0+12))),(117,v117),(119,v119),(118,v119),(120,t 9),(121,v121),(122,t 9),(123,v112),(124,v124)]) g26 n124) (
Jb .int .eql v117 (.int .i64 2) fun v126=>
Qa v126 (
C Zaa [t 9] g n fun v128 g28 n128=>
C X4 [t 9,v112,.int .i64 10] g28 n128 fun v131 g29 n131=>
JaA C K (puts t [(98,t 9),(99,v99),(100,(ptr l100 (o100+0))),(101,(ptr l100 (o100+0+14))),(102,v102),(103,v103),(108,t 9),(109,v109),(110,(ptr l110 (o110+0))),(111,(ptr l110 (o110+0+13))),(112,v112),(10,v112),(113,t 9),(114,v114),(115,(ptr l115 (o115+0))),(116,(ptr l115 (o115+0+12))),(117,v117),(119,v119),(118,v119),(126,v126),(125,v126),(127,t 9),(128,v128),(129,t 9),(130,v112),(131,v131)]) g29 n131) (
JaA C K (puts t [(98,t 9),(99,v99),(100,(ptr l100 (o100+0))),(101,(ptr l100 (o100+0+14))),(102,v102),(103,v103),(108,t 9),(109,v109),(110,(ptr l110 (o110+0))),(111,(ptr l110 (o110+0+13))),(112,v112),(10,v112),(113,t 9),(114,v114),(115,(ptr l115 (o115+0))),(116,(ptr l115 (o115+0+12))),(117,v117),(119,v119),(118,v119),(126,v126),(125,v126)]) g n)))
def XaR (C:CT) (K:Cont) (t:Env) (g:G) (n:Nat):Prop:=
Jg (t 9) fun v75=>
Qd v75 fun l76 o76=>
kLd g l76 (o76+0+11) fun v78=>
C Zu [t 1] g n fun v80 g20 n80=>
(Qd (ptr l76 (o76+0+11)) fun l _=>g20 l=g l)∧Jb .int .andNot v78 v80 fun v81=>
Jg (t 9) fun v82=>
Qd v82 fun l83 o83=>
kSt g20 l83 (o83+0+11) v81 fun g21=>
Qd (t 5) fun l85 o85=>
kLd g21 l85 (o85+3) fun v86=>
Qa v86 (
Jg (t 9) fun v88=>
Qd v88 fun l89 o89=>
kLd g21 l89 (o89+0+11) fun v91=>
C Zu [t 1] g21 n80 fun v93 g22 n93=>
(Qd (ptr l89 (o89+0+11)) fun l _=>g22 l=g21 l)∧Jb .int .or v91 v93 fun v94=>
Jg (t 9) fun v95=>
Qd v95 fun l96 o96=>
kSt g22 l96 (o96+0+11) v94 fun g23=>
QaS C K (puts t [(74,t 9),(75,v75),(76,(ptr l76 (o76+0))),(77,(ptr l76 (o76+0+11))),(78,v78),(79,t 1),(80,v80),(81,v81),(82,v82),(83,(ptr l83 (o83+0))),(84,(ptr l83 (o83+0+11))),(85,(ptr l85 (o85+3))),(86,v86),(87,t 9),(88,v88),(89,(ptr l89 (o89+0))),(90,(ptr l89 (o89+0+11))),(91,v91),(92,t 1),(93,v93),(94,v94),(95,v95),(96,(ptr l96 (o96+0))),(97,(ptr l96 (o96+0+11)))]) g23 n93) (
QaS C K (puts t [(74,t 9),(75,v75),(76,(ptr l76 (o76+0))),(77,(ptr l76 (o76+0+11))),(78,v78),(79,t 1),(80,v80),(81,v81),(82,v82),(83,(ptr l83 (o83+0))),(84,(ptr l83 (o83+0+11))),(85,(ptr l85 (o85+3))),(86,v86)]) g21 n80)
def Xds (C:CT) (a0 a1 a2:Value) (g:G) (n:Nat) (K:Cont):Prop:=
Zn a0 fun c3=>
Zq c3 .exact g n fun l3 g1 n3=>
Zn a2 fun c5=>
Zq c5 .exact g1 n3 fun l5 g2 n5=>
Zq [.bool false,.bool false,.int .u64 0,.int .u64 0,.int .u64 0,.int .u64 0,.int .u64 0,.int .u64 0,.int .u64 0,.int .u64 0,.int .i64 0,.int .u8 0,.int .i64 0,.int .i64 0,.int .u8 0] .exact g2 n5 fun l6 g3 n6=>
Zo g3 l3 0 15 fun c12=>
C QaZ [.agg c12.toArray] g3 n6 fun v13 g4 n13=>
kUn .not v13 fun v14=>
Qa v14 (
Xf [.bool false,.bool false,.int .u64 0,.int .u64 0,.int .u64 0,.int .u64 0,.int .u64 0,.int .u64 0,.int .u64 0,.int .u64 0,.int .i64 0,.int .u8 0,.int .i64 0,.int .i64 0,.int .u8 0] [] fun c31=>
Zn (.agg c31.toArray) fun cg5=>
cg5.length=15∧Xu g4 l6 0 cg5 fun g5=>
Zo g5 l6 0 15 fun r0=>
Jc K (.tuple #[.agg r0.toArray,.slice none 0 0,.int .i64 1]) g5 n13) (
C ZaG [a1] g4 n13 fun v17 g6 n17=>
kUn .not v17 fun v18=>
Qa v18 (
Xf [.bool false,.bool false,.int .u64 0,.int .u64 0,.int .u64 0,.int .u64 0,.int .u64 0,.int .u64 0,.int .u64 0,.int .u64 0,.int .i64 0,.int .u8 0,.int .i64 0,.int .i64 0,.int .u8 0] [] fun c31=>
Zn (.agg c31.toArray) fun cg7=>
cg7.length=15∧Xu g6 l6 0 cg7 fun g7=>
Zo g7 l6 0 15 fun r0=>
Jc K (.tuple #[.agg r0.toArray,.slice none 0 0,.int .i64 1]) g7 n17) (
Zo g6 l5 0 12 fun c21=>
C XaE [.agg c21.toArray] g6 n17 fun v22 g8 n22=>
kUn .not v22 fun v23=>
Qa v23 (
Xf [.bool false,.bool false,.int .u64 0,.int .u64 0,.int .u64 0,.int .u64 0,.int .u64 0,.int .u64 0,.int .u64 0,.int .u64 0,.int .i64 0,.int .u8 0,.int .i64 0,.int .i64 0,.int .u8 0] [] fun c31=>
Zn (.agg c31.toArray) fun cg9=>
cg9.length=15∧Xu g8 l6 0 cg9 fun g9=>
Zo g9 l6 0 15 fun r0=>
Jc K (.tuple #[.agg r0.toArray,.slice none 0 0,.int .i64 1]) g9 n22) (
kLd g8 l5 (0+0) fun v27=>
C Qa6 [v27] g8 n22 fun v28 g10 n28=>
kUn .not v28 fun v29=>
Qa v29 (
Xf [.bool false,.bool false,.int .u64 0,.int .u64 0,.int .u64 0,.int .u64 0,.int .u64 0,.int .u64 0,.int .u64 0,.int .u64 0,.int .i64 0,.int .u8 0,.int .i64 0,.int .i64 0,.int .u8 0] [] fun c31=>
Zn (.agg c31.toArray) fun cg11=>
cg11.length=15∧Xu g10 l6 0 cg11 fun g11=>
Zo g11 l6 0 15 fun r0=>
Jc K (.tuple #[.agg r0.toArray,.slice none 0 0,.int .i64 1]) g11 n28) (
kLd g10 l3 (0+12) fun v34=>
Jb .int .eql v34 (.int .i64 0) fun v35=>
Qa v35 (
Xf [.bool false,.bool false,.int .u64 0,.int .u64 0,.int .u64 0,.int .u64 0,.int .u64 0,.int .u64 0,.int .u64 0,.int .u64 0,.int .i64 0,.int .u8 0,.int .i64 0,.int .i64 0,.int .u8 0] [] fun c43=>
Zn (.agg c43.toArray) fun cg12=>
cg12.length=15∧Xu g10 l6 0 cg12 fun g12=>
Zo g12 l6 0 15 fun r0=>
Jc K (.tuple #[.agg r0.toArray,.slice none 0 0,.int .i64 16]) g12 n28) (
kLd g10 l3 (0+14) fun v38=>
C Zbl [v38,a1] g10 n28 fun v40 g13 n40=>
kUn .not v40 fun v41=>
Qa v41 (
Xf [.bool false,.bool false,.int .u64 0,.int .u64 0,.int .u64 0,.int .u64 0,.int .u64 0,.int .u64 0,.int .u64 0,.int .u64 0,.int .i64 0,.int .u8 0,.int .i64 0,.int .i64 0,.int .u8 0] [] fun c43=>
Zn (.agg c43.toArray) fun cg14=>
cg14.length=15∧Xu g13 l6 0 cg14 fun g14=>
Zo g14 l6 0 15 fun r0=>
Jc K (.tuple #[.agg r0.toArray,.slice none 0 0,.int .i64 16]) g14 n40) (
Zo g13 l3 0 15 fun c44=>
kLd g13 l5 (0+1) fun v46=>
Xf [.bool false,.bool false,.int .u64 0,.int .u64 0,.int .u64 0,.int .u64 0,.int .u64 0,.int .u64 0,.int .u64 0,.int .u64 0,.int .i64 0,.int .u8 0,.int .i64 0,.int .i64 0,.int .u8 0,.int .i64 0,.slice none 0 0] [(0,some 15,.agg c44.toArray),(15,none,v46)] fun c47=>
Zn (.agg c47.toArray) fun c48=>
Zq c48 .exact g13 n40 fun l48 g15 n48=>
kLd g15 l48 (0+0+14) fun v53=>
C Zu [a1] g15 n48 fun v55 g16 n55=>
(Qd (ptr l48 (0+0+14)) fun l _=>g16 l=g15 l)∧Jb .int .andNot v53 v55 fun v56=>
kSt g16 l48 (0+0+14) v56 fun g17=>
Zo g17 l5 0 12 fun c61=>
C Jao [ptr l48 0,.agg c61.toArray] g17 n55 fun v62 g18 n62=>
kLd g18 l48 (0+0+10) fun v67=>
Jb .int .eql v67 a1 fun v69=>
Qa v69 (
kSt g18 l48 (0+0+10) (.int .i64 (-1)) fun g19=>
XaR C K (puts (Jj [a0,a1,a2]) [(3,ptr l3 0),(5,ptr l5 0),(6,ptr l6 0),(7,.slice none 0 0),(8,.int .i64 0),(12,.agg c12.toArray),(13,v13),(14,v14),(15,.bool false),(16,a1),(17,v17),(18,v18),(19,v18),(20,.bool false),(21,.agg c21.toArray),(22,v22),(23,v23),(24,v23),(25,.bool false),(26,(ptr l5 (0+0))),(27,v27),(28,v28),(29,v29),(30,v29),(11,v29),(33,(ptr l3 (0+12))),(34,v34),(35,v35),(36,.bool false),(37,(ptr l3 (0+14))),(38,v38),(39,a1),(40,v40),(41,v41),(42,v41),(32,v41),(44,.agg c44.toArray),(45,(ptr l5 (0+1))),(46,v46),(47,.agg c47.toArray),(48,ptr l48 0),(9,ptr l48 0),(49,ptr l48 0),(50,ptr l48 0),(51,(ptr l48 (0+0))),(52,(ptr l48 (0+0+14))),(53,v53),(54,a1),(55,v55),(56,v56),(57,ptr l48 0),(58,(ptr l48 (0+0))),(59,(ptr l48 (0+0+14))),(60,ptr l48 0),(61,.agg c61.toArray),(62,v62),(63,ptr l48 0),(64,ptr l48 0),(65,(ptr l48 (0+0))),(66,(ptr l48 (0+0+10))),(67,v67),(68,a1),(69,v69),(70,ptr l48 0),(71,ptr l48 0),(72,(ptr l48 (0+0))),(73,(ptr l48 (0+0+10)))]) g19 n62) (
XaR C K (puts (Jj [a0,a1,a2]) [(3,ptr l3 0),(5,ptr l5 0),(6,ptr l6 0),(7,.slice none 0 0),(8,.int .i64 0),(12,.agg c12.toArray),(13,v13),(14,v14),(15,.bool false),(16,a1),(17,v17),(18,v18),(19,v18),(20,.bool false),(21,.agg c21.toArray),(22,v22),(23,v23),(24,v23),(25,.bool false),(26,(ptr l5 (0+0))),(27,v27),(28,v28),(29,v29),(30,v29),(11,v29),(33,(ptr l3 (0+12))),(34,v34),(35,v35),(36,.bool false),(37,(ptr l3 (0+14))),(38,v38),(39,a1),(40,v40),(41,v41),(42,v41),(32,v41),(44,.agg c44.toArray),(45,(ptr l5 (0+1))),(46,v46),(47,.agg c47.toArray),(48,ptr l48 0),(9,ptr l48 0),(49,ptr l48 0),(50,ptr l48 0),(51,(ptr l48 (0+0))),(52,(ptr l48 (0+0+14))),(53,v53),(54,a1),(55,v55),(56,v56),(57,ptr l48 0),(58,(ptr l48 (0+0))),(59,(ptr l48 (0+0+14))),(60,ptr l48 0),(61,.agg c61.toArray),(62,v62),(63,ptr l48 0),(64,ptr l48 0),(65,(ptr l48 (0+0))),(66,(ptr l48 (0+0+10))),(67,v67),(68,a1),(69,v69)]) g18 n62)))))))
theorem ZdH (C:CT) (a0 a1 a2:Value) (g:G) (n:Nat) (K:Cont):Xds C a0 a1 a2 g n K=Je Tryz.prog C JaP [a0,a1,a2] g n K:=by kernel_rfl
def Xbt (C:CT) (a0 a1:Value) (g:G) (n:Nat) (K:Cont):Prop:=
Jb .ptr .neq a0 (.pointer none) fun v6=>
Qa v6 (
Jb .int .geq a1 (.int .i64 0) fun v9=>
Qa v9 (
Jg a0 fun v14=>
Qd v14 fun l15 o15=>
kLd g l15 (o15+8) fun v16=>
Jaw v16 fun v17=>
Jb .int .lss a1 v17 fun v18=>
Jc K v18 g n) (
Jc K (.bool false) g n)) (
Jc K (.bool false) g n)
theorem Zb6 (C:CT) (a0 a1:Value) (g:G) (n:Nat) (K:Cont):Xbt C a0 a1 g n K=Je Tryz.prog C Qv [a0,a1] g n K:=by kernel_rfl
def Jd4 (C:CT) (a0:Value) (g:G) (n:Nat) (K:Cont):Prop:=
Zn a0 fun c1=>
Zq c1 .exact g n fun l1 g1 n1=>
Zo g1 l1 0 15 fun c3=>
C QaZ [.agg c3.toArray] g1 n1 fun v4 g2 n4=>
Qa v4 (
kLd g2 l1 (0+12) fun v7=>
Jb .int .eql v7 (.int .i64 4) fun v8=>
Qa v8 (
kLd g2 l1 (0+14) fun v17=>
Jb .int .eql v17 (.int .u8 0) fun v18=>
Jc K v18 g2 n4) (
kLd g2 l1 (0+12) fun v11=>
Jb .int .eql v11 (.int .i64 5) fun v12=>
Qa v12 (
kLd g2 l1 (0+14) fun v17=>
Jb .int .eql v17 (.int .u8 0) fun v18=>
Jc K v18 g2 n4) (
Jc K (.bool false) g2 n4))) (
Jc K (.bool false) g2 n4)
theorem Zd1 (C:CT) (a0:Value) (g:G) (n:Nat) (K:Cont):Jd4 C a0 g n K=Je Tryz.prog C Xa4 [a0] g n K:=by kernel_rfl
def Qbd (C:CT) (a0 a1:Value) (g:G) (n:Nat) (K:Cont):Prop:=
Jg a0 fun v6=>
Qd v6 fun l7 o7=>
kLd g l7 (o7+8) fun v8=>
Xd v8 a1 15 fun v10=>
Qd v10 fun l11 o11=>
kLd g l11 (o11+1) fun v12=>
kUn .not v12 fun v13=>
Qa v13 (
Jc K (.int .i64 0) g n) (
Jg a0 fun v15=>
Qd v15 fun l16 o16=>
kLd g l16 (o16+9) fun v17=>
Jg a0 fun v20=>
Qd v20 fun l21 o21=>
kLd g l21 (o21+8) fun v22=>
Xd v22 a1 15 fun v24=>
Qd v24 fun l25 o25=>
Zo g l25 (o25+2) 8 fun c26=>
C Qt [v17,a1,.agg c26.toArray] g n fun v27 g1 n27=>
Jc K v27 g1 n27)
theorem JbT (C:CT) (a0 a1:Value) (g:G) (n:Nat) (K:Cont):Qbd C a0 a1 g n K=Je Tryz.prog C Xam [a0,a1] g n K:=by kernel_rfl
def Xdq (C:CT) (a0:Value) (g:G) (n:Nat) (K:Cont):Prop:=
Zn a0 fun c1=>
Zq c1 .exact g n fun l1 g1 n1=>
Zq [.bool false,.bool false,.int .u64 0,.int .u64 0,.int .u64 0,.int .u64 0,.int .u64 0,.int .u64 0,.int .u64 0,.int .u64 0,.int .i64 0,.int .u8 0,.int .i64 0,.int .i64 0,.int .u8 0] .exact g1 n1 fun l2 g2 n2=>
Zo g2 l1 0 15 fun c7=>
C Xa4 [.agg c7.toArray] g2 n2 fun v8 g3 n8=>
kUn .not v8 fun v9=>
Qa v9 (
Xf [.bool false,.bool false,.int .u64 0,.int .u64 0,.int .u64 0,.int .u64 0,.int .u64 0,.int .u64 0,.int .u64 0,.int .u64 0,.int .i64 0,.int .u8 0,.int .i64 0,.int .i64 0,.int .u8 0] [] fun c10=>
Zn (.agg c10.toArray) fun cg4=>
cg4.length=15∧Xu g3 l2 0 cg4 fun g4=>
Zo g4 l2 0 15 fun r0=>
Jc K (.tuple #[.agg r0.toArray,.slice none 0 0,.int .i64 16]) g4 n8) (
Zo g3 l1 0 15 fun c11=>
Xf [.bool false,.bool false,.int .u64 0,.int .u64 0,.int .u64 0,.int .u64 0,.int .u64 0,.int .u64 0,.int .u64 0,.int .u64 0,.int .i64 0,.int .u8 0,.int .i64 0,.int .i64 0,.int .u8 0,.int .i64 0,.slice none 0 0] [(0,some 15,.agg c11.toArray)] fun c12=>
Zn (.agg c12.toArray) fun c13=>
Zq c13 .exact g3 n8 fun l13 g5 n13=>
kSt g5 l13 (0+0+1) (.bool false) fun g6=>
kLd g6 l1 (0+13) fun v19=>
C Zaa [ptr l13 0] g6 n13 fun v21 g7 n21=>
C ZK [ptr l13 0,v19,.int .i64 14] g7 n21 fun v24 g8 n24=>
Zo g8 l13 (0+0) 15 fun c28=>
kLd g8 l13 (0+16) fun v32=>
Zn (.agg c28.toArray) fun cg9=>
cg9.length=15∧Xu g8 l2 0 cg9 fun g9=>
(Qd (ptr l13 (0+16)) fun l _=>g9 l=g8 l)∧Zo g9 l2 0 15 fun r0=>
Jc K (.tuple #[.agg r0.toArray,v32,.int .i64 0]) g9 n24)
theorem Zdx (C:CT) (a0:Value) (g:G) (n:Nat) (K:Cont):Xdq C a0 g n K=Je Tryz.prog C Jbo [a0] g n K:=by kernel_rfl
def Xa9 (C:CT) (a0 a1:Value) (g:G) (n:Nat) (K:Cont):Prop:=
C Qv [a0,a1] g n fun v7 g1 n7=>
kUn .not v7 fun v8=>
Qa v8 (
Jc K (.int .i64 1) g1 n7) (
Jg a0 fun v10=>
Qd v10 fun l11 o11=>
kLd g1 l11 (o11+9) fun v12=>
C Qr [v12,a1] g1 n7 fun v14 g2 n14=>
Jc K v14 g2 n14)
theorem JbU (C:CT) (a0 a1:Value) (g:G) (n:Nat) (K:Cont):Xa9 C a0 a1 g n K=Je Tryz.prog C Zal [a0,a1] g n K:=by kernel_rfl
def QcB (C:CT) (a0 a1 a2:Value) (g:G) (n:Nat) (K:Cont):Prop:=
Jb .int .geq a0 a1 fun v9=>
Qa v9 (
Jb .int .leq a0 a2 fun v13=>
Jc K v13 g n) (
Jc K (.bool false) g n)
theorem QcV (C:CT) (a0 a1 a2:Value) (g:G) (n:Nat) (K:Cont):QcB C a0 a1 a2 g n K=Je Tryz.prog C Qf [a0,a1,a2] g n K:=by kernel_rfl
def Qd5 (C:CT) (a0 a1:Value) (g:G) (n:Nat) (K:Cont):Prop:=
C JbH [a0,a1] g n fun v11 g1 n11=>
Xc v11 0 fun v12=>
Xc v11 1 fun v13=>
Jb .int .neq v13 (.int .i64 0) fun v15=>
Qa v15 (
Jc K (.tuple #[.pointer none,v13]) g1 n11) (
Xf [.pointer none] [(0,none,v12)] fun c18=>
Zn (.agg c18.toArray) fun c19=>
Zq c19 .exact g1 n11 fun l19 g2 n19=>
Jc K (.tuple #[ptr l19 0,.int .i64 0]) g2 n19)
theorem Xd2 (C:CT) (a0 a1:Value) (g:G) (n:Nat) (K:Cont):Qd5 C a0 a1 g n K=Je Tryz.prog C QbI [a0,a1] g n K:=by kernel_rfl
def XD (C:CT) (K:Cont) (t:Env) (g:G) (n:Nat):Prop:=
Xbe (t 104) fun b108=>
Qa (bif b108 then (t 107) else (.bool false)) (
kUn .not (t 3) fun v111=>
Qa v111 (
Jc K (.bool true) g n) (
Qd (t 1) fun l113 o113=>
kLd g l113 (o113+4) fun v114=>
Jb .int .geq v114 (.int .i64 0) fun v115=>
Jc K v115 g n)) (
Jc K (.bool false) g n)
def QY (C:CT) (K:Cont) (t:Env) (g:G) (n:Nat):Prop:=
Xbe (t 91) fun b95=>
Qa (bif b95 then (.bool true) else (t 94)) (
Qd (t 1) fun l101 o101=>
kLd g l101 (o101+4) fun v102=>
Jb .int .geq v102 (.int .i64 (-2147483648)) fun v103=>
Qa v103 (
Qd (t 1) fun l105 o105=>
kLd g l105 (o105+4) fun v106=>
Jb .int .lss v106 (.int .i64 2147483648) fun v107=>
XD C K (puts t [(95,(bif b95 then (.bool true) else (t 94))),(96,.bool true),(97,undef),(98,undef),(99,undef),(100,.bool true),(3,.bool true),(101,(ptr l101 (o101+4))),(102,v102),(103,v103),(104,.bool true),(105,(ptr l105 (o105+4))),(106,v106),(107,v107)]) g n) (
XD C K (puts t [(95,(bif b95 then (.bool true) else (t 94))),(96,.bool true),(97,undef),(98,undef),(99,undef),(100,.bool true),(3,.bool true),(101,(ptr l101 (o101+4))),(102,v102),(103,v103),(104,.bool false),(105,undef),(106,undef),(107,undef)]) g n)) (
Qd (t 1) fun l97 o97=>
kLd g l97 (o97+0) fun v98=>
Jb .int .eql v98 (.int .i64 20) fun v99=>
Qd (t 1) fun l101 o101=>
kLd g l101 (o101+4) fun v102=>
Jb .int .geq v102 (.int .i64 (-2147483648)) fun v103=>
Qa v103 (
Qd (t 1) fun l105 o105=>
kLd g l105 (o105+4) fun v106=>
Jb .int .lss v106 (.int .i64 2147483648) fun v107=>
XD C K (puts t [(95,(bif b95 then (.bool true) else (t 94))),(96,.bool false),(97,(ptr l97 (o97+0))),(98,v98),(99,v99),(100,v99),(3,v99),(101,(ptr l101 (o101+4))),(102,v102),(103,v103),(104,.bool true),(105,(ptr l105 (o105+4))),(106,v106),(107,v107)]) g n) (
XD C K (puts t [(95,(bif b95 then (.bool true) else (t 94))),(96,.bool false),(97,(ptr l97 (o97+0))),(98,v98),(99,v99),(100,v99),(3,v99),(101,(ptr l101 (o101+4))),(102,v102),(103,v103),(104,.bool false),(105,undef),(106,undef),(107,undef)]) g n))
def QD (C:CT) (K:Cont) (t:Env) (g:G) (n:Nat):Prop:=
Xbe (t 86) fun b90=>
Qa (bif b90 then (.bool true) else (t 89)) (
QY C K (puts t [(90,(bif b90 then (.bool true) else (t 89))),(91,.bool true),(92,undef),(93,undef),(94,undef)]) g n) (
Qd (t 1) fun l92 o92=>
kLd g l92 (o92+0) fun v93=>
Jb .int .eql v93 (.int .i64 19) fun v94=>
QY C K (puts t [(90,(bif b90 then (.bool true) else (t 89))),(91,.bool false),(92,(ptr l92 (o92+0))),(93,v93),(94,v94)]) g n)
def ZL (C:CT) (K:Cont) (t:Env) (g:G) (n:Nat):Prop:=
Xbe (t 54) fun b64=>
Qa (bif b64 then (.bool true) else (t 63)) (
Jc K (.bool false) g n) (
Qd (t 1) fun l66 o66=>
kLd g l66 (o66+0) fun v67=>
C Qs [v67,.int .u8 67] g n fun v68 g4 n68=>
kUn .not v68 fun v69=>
Qa v69 (
Qd (t 1) fun l71 o71=>
kLd g4 l71 (o71+3) fun v72=>
Jb .int .neq v72 (.int .i64 0) fun v73=>
Qa v73 (
Jc K (.bool false) g4 n68) (
Qd (t 1) fun l76 o76=>
kLd g4 l76 (o76+0) fun v77=>
C Qs [v77,.int .u8 73] g4 n68 fun v78 g5 n78=>
kUn .not v78 fun v79=>
Qa v79 (
Qd (t 1) fun l80 o80=>
kLd g5 l80 (o80+4) fun v81=>
Jb .int .eql v81 (.int .i64 0) fun v82=>
Jc K v82 g5 n78) (
Qd (t 1) fun l83 o83=>
kLd g5 l83 (o83+0) fun v84=>
Jb .int .eql v84 (.int .i64 17) fun v85=>
Qa v85 (
QD C K (puts t [(64,(bif b64 then (.bool true) else (t 63))),(65,.bool false),(66,(ptr l66 (o66+0))),(67,v67),(68,v68),(69,v69),(70,.bool true),(71,(ptr l71 (o71+3))),(72,v72),(73,v73),(74,v73),(75,v73),(76,(ptr l76 (o76+0))),(77,v77),(78,v78),(79,v79),(83,(ptr l83 (o83+0))),(84,v84),(85,v85),(86,.bool true),(87,undef),(88,undef),(89,undef)]) g5 n78) (
Qd (t 1) fun l87 o87=>
kLd g5 l87 (o87+0) fun v88=>
Jb .int .eql v88 (.int .i64 18) fun v89=>
QD C K (puts t [(64,(bif b64 then (.bool true) else (t 63))),(65,.bool false),(66,(ptr l66 (o66+0))),(67,v67),(68,v68),(69,v69),(70,.bool true),(71,(ptr l71 (o71+3))),(72,v72),(73,v73),(74,v73),(75,v73),(76,(ptr l76 (o76+0))),(77,v77),(78,v78),(79,v79),(83,(ptr l83 (o83+0))),(84,v84),(85,v85),(86,.bool false),(87,(ptr l87 (o87+0))),(88,v88),(89,v89)]) g5 n78)))) (
Qd (t 1) fun l76 o76=>
kLd g4 l76 (o76+0) fun v77=>
C Qs [v77,.int .u8 73] g4 n68 fun v78 g6 n78=>
kUn .not v78 fun v79=>
Qa v79 (
Qd (t 1) fun l80 o80=>
kLd g6 l80 (o80+4) fun v81=>
Jb .int .eql v81 (.int .i64 0) fun v82=>
Jc K v82 g6 n78) (
Qd (t 1) fun l83 o83=>
kLd g6 l83 (o83+0) fun v84=>
Jb .int .eql v84 (.int .i64 17) fun v85=>
Qa v85 (
QD C K (puts t [(64,(bif b64 then (.bool true) else (t 63))),(65,.bool false),(66,(ptr l66 (o66+0))),(67,v67),(68,v68),(69,v69),(70,.bool false),(71,undef),(72,undef),(73,undef),(74,.bool false),(75,.bool false),(76,(ptr l76 (o76+0))),(77,v77),(78,v78),(79,v79),(83,(ptr l83 (o83+0))),(84,v84),(85,v85),(86,.bool true),(87,undef),(88,undef),(89,undef)]) g6 n78) (
Qd (t 1) fun l87 o87=>
kLd g6 l87 (o87+0) fun v88=>
Jb .int .eql v88 (.int .i64 18) fun v89=>
QD C K (puts t [(64,(bif b64 then (.bool true) else (t 63))),(65,.bool false),(66,(ptr l66 (o66+0))),(67,v67),(68,v68),(69,v69),(70,.bool false),(71,undef),(72,undef),(73,undef),(74,.bool false),(75,.bool false),(76,(ptr l76 (o76+0))),(77,v77),(78,v78),(79,v79),(83,(ptr l83 (o83+0))),(84,v84),(85,v85),(86,.bool false),(87,(ptr l87 (o87+0))),(88,v88),(89,v89)]) g6 n78))))
def JK (C:CT) (K:Cont) (t:Env) (g:G) (n:Nat):Prop:=
Xbe (t 43) fun b53=>
Qa (bif b53 then (.bool true) else (t 52)) (
ZL C K (puts t [(53,(bif b53 then (.bool true) else (t 52))),(54,.bool true),(55,undef),(56,undef),(57,undef),(58,undef),(59,undef),(60,undef),(61,undef),(62,undef),(63,undef)]) g n) (
Qd (t 1) fun l55 o55=>
kLd g l55 (o55+0) fun v56=>
C Qs [v56,.int .u8 67] g n fun v57 g7 n57=>
Qa v57 (
Qd (t 1) fun l59 o59=>
kLd g7 l59 (o59+3) fun v60=>
C ZP [v60] g7 n57 fun v61 g8 n61=>
kUn .not v61 fun v62=>
ZL C K (puts t [(53,(bif b53 then (.bool true) else (t 52))),(54,.bool false),(55,(ptr l55 (o55+0))),(56,v56),(57,v57),(58,.bool true),(59,(ptr l59 (o59+3))),(60,v60),(61,v61),(62,v62),(63,v62)]) g8 n61) (
ZL C K (puts t [(53,(bif b53 then (.bool true) else (t 52))),(54,.bool false),(55,(ptr l55 (o55+0))),(56,v56),(57,v57),(58,.bool false),(59,undef),(60,undef),(61,undef),(62,undef),(63,.bool false)]) g7 n57))
def JL (C:CT) (K:Cont) (t:Env) (g:G) (n:Nat):Prop:=
Xbe (t 32) fun b42=>
Qa (bif b42 then (.bool true) else (t 41)) (
JK C K (puts t [(42,(bif b42 then (.bool true) else (t 41))),(43,.bool true),(44,undef),(45,undef),(46,undef),(47,undef),(48,undef),(49,undef),(50,undef),(51,undef),(52,undef)]) g n) (
Qd (t 1) fun l44 o44=>
kLd g l44 (o44+0) fun v45=>
C Qs [v45,.int .u8 66] g n fun v46 g9 n46=>
kUn .not v46 fun v47=>
Qa v47 (
Qd (t 1) fun l49 o49=>
kLd g9 l49 (o49+2) fun v50=>
Jb .int .neq v50 (.int .i64 0) fun v51=>
JK C K (puts t [(42,(bif b42 then (.bool true) else (t 41))),(43,.bool false),(44,(ptr l44 (o44+0))),(45,v45),(46,v46),(47,v47),(48,.bool true),(49,(ptr l49 (o49+2))),(50,v50),(51,v51),(52,v51)]) g9 n46) (
JK C K (puts t [(42,(bif b42 then (.bool true) else (t 41))),(43,.bool false),(44,(ptr l44 (o44+0))),(45,v45),(46,v46),(47,v47),(48,.bool false),(49,undef),(50,undef),(51,undef),(52,.bool false)]) g9 n46))
def QL (C:CT) (K:Cont) (t:Env) (g:G) (n:Nat):Prop:=
Xbe (t 21) fun b31=>
Qa (bif b31 then (.bool true) else (t 30)) (
JL C K (puts t [(31,(bif b31 then (.bool true) else (t 30))),(32,.bool true),(33,undef),(34,undef),(35,undef),(36,undef),(37,undef),(38,undef),(39,undef),(40,undef),(41,undef)]) g n) (
Qd (t 1) fun l33 o33=>
kLd g l33 (o33+0) fun v34=>
C Qs [v34,.int .u8 66] g n fun v35 g10 n35=>
Qa v35 (
Qd (t 1) fun l37 o37=>
kLd g10 l37 (o37+2) fun v38=>
C ZP [v38] g10 n35 fun v39 g11 n39=>
kUn .not v39 fun v40=>
JL C K (puts t [(31,(bif b31 then (.bool true) else (t 30))),(32,.bool false),(33,(ptr l33 (o33+0))),(34,v34),(35,v35),(36,.bool true),(37,(ptr l37 (o37+2))),(38,v38),(39,v39),(40,v40),(41,v40)]) g11 n39) (
JL C K (puts t [(31,(bif b31 then (.bool true) else (t 30))),(32,.bool false),(33,(ptr l33 (o33+0))),(34,v34),(35,v35),(36,.bool false),(37,undef),(38,undef),(39,undef),(40,undef),(41,.bool false)]) g10 n35))
def QZ (C:CT) (K:Cont) (t:Env) (g:G) (n:Nat):Prop:=
Xbe (t 15) fun b20=>
Qa (bif b20 then (t 19) else (.bool false)) (
QL C K (puts t [(20,(bif b20 then (t 19) else (.bool false))),(21,.bool true),(22,undef),(23,undef),(24,undef),(25,undef),(26,undef),(27,undef),(28,undef),(29,undef),(30,undef)]) g n) (
Qd (t 1) fun l22 o22=>
kLd g l22 (o22+0) fun v23=>
C Qs [v23,.int .u8 65] g n fun v24 g12 n24=>
kUn .not v24 fun v25=>
Qa v25 (
Qd (t 1) fun l27 o27=>
kLd g12 l27 (o27+1) fun v28=>
Jb .int .neq v28 (.int .i64 0) fun v29=>
QL C K (puts t [(20,(bif b20 then (t 19) else (.bool false))),(21,.bool false),(22,(ptr l22 (o22+0))),(23,v23),(24,v24),(25,v25),(26,.bool true),(27,(ptr l27 (o27+1))),(28,v28),(29,v29),(30,v29)]) g12 n24) (
QL C K (puts t [(20,(bif b20 then (t 19) else (.bool false))),(21,.bool false),(22,(ptr l22 (o22+0))),(23,v23),(24,v24),(25,v25),(26,.bool false),(27,undef),(28,undef),(29,undef),(30,.bool false)]) g12 n24))
def Jbe (C:CT) (a0:Value) (g:G) (n:Nat) (K:Cont):Prop:=
Zn a0 fun c1=>
Zq c1 .exact g n fun l1 g1 n1=>
kLd g1 l1 (0+0) fun v5=>
Jb .int .lss v5 (.int .i64 0) fun v6=>
Qa v6 (
Jc K (.bool false) g1 n1) (
kLd g1 l1 (0+0) fun v9=>
Jb .int .gtr v9 (.int .i64 22) fun v10=>
Qa v10 (
Jc K (.bool false) g1 n1) (
kLd g1 l1 (0+0) fun v13=>
C Qs [v13,.int .u8 65] g1 n1 fun v14 g2 n14=>
Qa v14 (
kLd g2 l1 (0+1) fun v17=>
C ZP [v17] g2 n14 fun v18 g3 n18=>
kUn .not v18 fun v19=>
QZ C K (puts (Jj [a0]) [(1,ptr l1 0),(2,.bool false),(4,(ptr l1 (0+0))),(5,v5),(6,v6),(7,.bool false),(8,(ptr l1 (0+0))),(9,v9),(10,v10),(11,v10),(12,(ptr l1 (0+0))),(13,v13),(14,v14),(15,.bool true),(16,(ptr l1 (0+1))),(17,v17),(18,v18),(19,v19)]) g3 n18) (
QZ C K (puts (Jj [a0]) [(1,ptr l1 0),(2,.bool false),(4,(ptr l1 (0+0))),(5,v5),(6,v6),(7,.bool false),(8,(ptr l1 (0+0))),(9,v9),(10,v10),(11,v10),(12,(ptr l1 (0+0))),(13,v13),(14,v14),(15,.bool false),(16,undef),(17,undef),(18,undef),(19,undef)]) g2 n14)))
theorem JbR (C:CT) (a0:Value) (g:G) (n:Nat) (K:Cont):Jbe C a0 g n K=Je Tryz.prog C Qal [a0] g n K:=by kernel_rfl
def ZcC (C:CT) (a0 a1:Value) (g:G) (n:Nat) (K:Cont):Prop:=
Jg a0 fun v5=>
Qd v5 fun l6 o6=>
C Zaw [(ptr l6 (o6+0))] g n fun v7 g1 n7=>
kUn .not v7 fun v8=>
Qa v8 (
C Qb8 [a0,a1] g1 n7 fun v11 g2 n11=>
Jc K (.tuple #[]) g2 n11) (
Jc K (.tuple #[]) g1 n7)
theorem Qc2 (C:CT) (a0 a1:Value) (g:G) (n:Nat) (K:Cont):ZcC C a0 a1 g n K=Je Tryz.prog C XaU [a0,a1] g n K:=by kernel_rfl
def QbK (C:CT) (a0:Value) (g:G) (n:Nat) (K:Cont):Prop:=
Qd a0 fun l4 o4=>
kLd g l4 o4 fun v4=>
Jg v4 fun v5=>
Qd v5 fun l6 o6=>
kLd g l6 (o6+3) fun v7=>
C Xbp [v7] g n fun v8 g1 n8=>
Xc v8 0 fun v9=>
Xc v8 1 fun v10=>
Zq [.int .i64 0,.int .i64 0,.int .i64 0,.int .i64 0,.int .i64 0] .exact g1 n8 fun l1 g2 n1=>
Zn v9 fun cg3=>
cg3.length=5∧Xu g2 l1 0 cg3 fun g3=>
Qd a0 fun l11 o11=>
kLd g3 l11 o11 fun v11=>
Qd a0 fun l12 o12=>
kLd g3 l12 o12 fun v12=>
Zo g3 l1 0 5 fun c13=>
Jb .int .eql v10 (.int .i64 0) fun v15=>
Jg v11 fun v16=>
Qd v16 fun l17 o17=>
Zn (.agg c13.toArray) fun cg4=>
cg4.length=5∧Xu g3 l17 (o17+4) cg4 fun g4=>
(Qd a0 fun l _=>g4 l=g3 l)∧Jg v12 fun v18=>
Qd v18 fun l19 o19=>
kSt g4 l19 (o19+9) v15 fun g5=>
Jc K (.tuple #[]) g5 n1
theorem Jcc (C:CT) (a0:Value) (g:G) (n:Nat) (K:Cont):QbK C a0 g n K=Je Tryz.prog C XaC [a0] g n K:=by kernel_rfl
def Qdt (C:CT) (a0:Value) (g:G) (n:Nat) (K:Cont):Prop:=
Zq [.int .i64 0,.int .i64 0,.int .i64 0,.int .i64 0,.int .i64 0] .exact g n fun l2 g1 n2=>
Qao .u8 a0 fun v6=>
Qao .i64 v6 fun v7=>
Jb .int .shr a0 (.int .u64 8) fun v9=>
Jb .int .and v9 (.int .u64 15) fun v10=>
Qao .i64 v10 fun v11=>
Jb .int .shr a0 (.int .u64 12) fun v13=>
Jb .int .and v13 (.int .u64 15) fun v14=>
Qao .i64 v14 fun v15=>
Jb .int .shr a0 (.int .u64 16) fun v17=>
Jb .int .and v17 (.int .u64 15) fun v18=>
Qao .i64 v18 fun v19=>
Qao .i64 a0 fun v21=>
Jb .int .shr v21 (.int .u64 32) fun v22=>
Xf [.int .i64 0,.int .i64 0,.int .i64 0,.int .i64 0,.int .i64 0] [(0,none,v7),(1,none,v11),(2,none,v15),(3,none,v19),(4,none,v22)] fun c23=>
Zq [.int .i64 0,.int .i64 0,.int .i64 0,.int .i64 0,.int .i64 0] .exact g1 n2 fun l4 g2 n4=>
Zn (.agg c23.toArray) fun cg3=>
cg3.length=5∧Xu g2 l4 0 cg3 fun g3=>
Qao .u32 a0 fun v25=>
Jb .int .shr v25 (.int .u64 20) fun v26=>
Jb .int .neq v26 (.int .u32 0) fun v27=>
Qa v27 (
Xf [.int .i64 0,.int .i64 0,.int .i64 0,.int .i64 0,.int .i64 0] [] fun c33=>
Zn (.agg c33.toArray) fun cg4=>
cg4.length=5∧Xu g3 l2 0 cg4 fun g4=>
Zo g4 l2 0 5 fun r0=>
Jc K (.tuple #[.agg r0.toArray,.int .i64 11]) g4 n4) (
Zo g3 l4 0 5 fun c29=>
C Jbp [.agg c29.toArray] g3 n4 fun v30 g5 n30=>
kUn .not v30 fun v31=>
Qa v31 (
Xf [.int .i64 0,.int .i64 0,.int .i64 0,.int .i64 0,.int .i64 0] [] fun c33=>
Zn (.agg c33.toArray) fun cg6=>
cg6.length=5∧Xu g5 l2 0 cg6 fun g6=>
Zo g6 l2 0 5 fun r0=>
Jc K (.tuple #[.agg r0.toArray,.int .i64 11]) g6 n30) (
Zo g5 l4 0 5 fun c34=>
Zn (.agg c34.toArray) fun cg7=>
cg7.length=5∧Xu g5 l2 0 cg7 fun g7=>
Zo g7 l2 0 5 fun r0=>
Jc K (.tuple #[.agg r0.toArray,.int .i64 0]) g7 n30))
theorem QdL (C:CT) (a0:Value) (g:G) (n:Nat) (K:Cont):Qdt C a0 g n K=Je Tryz.prog C Xbp [a0] g n K:=by kernel_rfl
def Xa5 (C:CT) (a0:Value) (g:G) (n:Nat) (K:Cont):Prop:=
Jg a0 fun v3=>
Qd v3 fun l4 o4=>
kLd g l4 (o4+0) fun v5=>
Jg v5 fun v6=>
Qd v6 fun l7 o7=>
kLd g l7 (o7+9) fun v8=>
Jb .int .add v8 (.int .i64 1) fun v9=>
Jg v5 fun v10=>
Qd v10 fun l11 o11=>
kSt g l11 (o11+9) v9 fun g1=>
Jc K (.tuple #[]) g1 n
theorem Jbd (C:CT) (a0:Value) (g:G) (n:Nat) (K:Cont):Xa5 C a0 g n K=Je Tryz.prog C Xq [a0] g n K:=by kernel_rfl
def Jaj (C:CT) (K:Cont) (t:Env) (g:G) (n:Nat):Prop:=
C Ql [t 0,t 5,t 2,t 3,t 6] g n fun v54 g4 n54=>
Jg (t 0) fun v56=>
Qd v56 fun l57 o57=>
kLd g4 l57 (o57+0) fun v58=>
Jg (t 0) fun v60=>
Qd v60 fun l61 o61=>
kLd g4 l61 (o61+2+1) fun v63=>
Jg v58 fun v65=>
Qd v65 fun l66 o66=>
Ji (ptr l66 (o66+1)) v63 8 1 fun v67=>
Qd v67 fun lg5 og5=>
kSt g4 lg5 og5 (t 6) fun g5=>
C Xq [t 0] g5 n54 fun v69 g6 n69=>
Jc K (.tuple #[]) g6 n69
def JbW (C:CT) (a0:Value) (g:G) (n:Nat) (K:Cont):Prop:=
C Jag [a0] g n fun v9 g1 n9=>
Xc v9 0 fun v10=>
Xc v9 1 fun v11=>
Xc v9 2 fun v12=>
kUn .not v12 fun v14=>
Qa v14 (
Jc K (.tuple #[]) g1 n9) (
Jg a0 fun v17=>
Qd v17 fun l18 o18=>
kLd g1 l18 (o18+0) fun v19=>
Jg v19 fun v20=>
Qd v20 fun l21 o21=>
kLd g1 l21 (o21+11) fun v22=>
C Qar [v22,v10,v11] g1 n9 fun v25 g2 n25=>
Xc v25 0 fun v26=>
Xc v25 1 fun v27=>
kUn .not v27 fun v29=>
Qa v29 (
Jg a0 fun v32=>
Qd v32 fun l33 o33=>
kLd g2 l33 (o33+1) fun v34=>
Jg a0 fun v36=>
Qd v36 fun l37 o37=>
kLd g2 l37 (o37+0) fun v38=>
Jg v38 fun v39=>
Qd v39 fun l40 o40=>
kLd g2 l40 (o40+0) fun v41=>
C Z9 [v34,v41,v10,v11] g2 n25 fun v44 g3 n44=>
Xc v44 0 fun v45=>
Xc v44 1 fun v46=>
kUn .not v46 fun v48=>
Qa v48 (
Jc K (.tuple #[]) g3 n44) (
Jaj C K (puts (Jj [a0]) [(8,a0),(9,v9),(7,v9),(10,v10),(11,v11),(12,v12),(2,v10),(3,v11),(4,v12),(13,v12),(14,v14),(5,.int .i64 2),(16,a0),(17,v17),(18,(ptr l18 (o18+0))),(19,v19),(20,v20),(21,(ptr l21 (o21+11))),(22,v22),(23,v10),(24,v11),(25,v25),(15,v25),(26,v26),(27,v27),(6,v26),(4,v27),(28,v27),(29,v29),(5,.int .i64 1),(31,a0),(32,v32),(33,(ptr l33 (o33+1))),(34,v34),(35,a0),(36,v36),(37,(ptr l37 (o37+0))),(38,v38),(39,v39),(40,(ptr l40 (o40+0))),(41,v41),(42,v10),(43,v11),(44,v44),(30,v44),(45,v45),(46,v46),(6,v45),(4,v46),(47,v46),(48,v48)]) g3 n44)) (
Jaj C K (puts (Jj [a0]) [(8,a0),(9,v9),(7,v9),(10,v10),(11,v11),(12,v12),(2,v10),(3,v11),(4,v12),(13,v12),(14,v14),(5,.int .i64 2),(16,a0),(17,v17),(18,(ptr l18 (o18+0))),(19,v19),(20,v20),(21,(ptr l21 (o21+11))),(22,v22),(23,v10),(24,v11),(25,v25),(15,v25),(26,v26),(27,v27),(6,v26),(4,v27),(28,v27),(29,v29)]) g2 n25))
theorem Qcw (C:CT) (a0:Value) (g:G) (n:Nat) (K:Cont):JbW C a0 g n K=Je Tryz.prog C QaE [a0] g n K:=by kernel_rfl
def Jaq (C:CT) (K:Cont) (J:Qj) (t:Env) (g:G) (n:Nat):Prop:=
J t g n
def ZD (C:CT) (K:Cont) (t:Env) (g:G) (n:Nat):Prop:=
Jg (t 0) fun v54=>
Qd v54 fun l55 o55=>
kLd g l55 (o55+2+0) fun v57=>
Jb .int .eql v57 (.int .i64 9) fun v58=>
Qa v58 (
Qd (t 5) fun l62 o62=>
kLd g l62 (o62+3) fun v63=>
C Ql [t 0,.int .i64 12,t 2,t 3,v63] g n fun v64 g7 n64=>
C Xq [t 0] g7 n64 fun v69 g8 n69=>
Jc K (.tuple #[]) g8 n69) (
C Ql [t 0,.int .i64 14,t 2,.int .i64 0,.int .u64 0] g n fun v67 g9 n67=>
C Xq [t 0] g9 n67 fun v69 g10 n69=>
Jc K (.tuple #[]) g10 n69)
def JW (C:CT) (K:Cont) (J:Qj) (t:Env) (g:G) (n:Nat):Prop:=
Jg (t 0) fun v44=>
Qd v44 fun l45 o45=>
kLd g l45 (o45+0) fun v46=>
Jg v46 fun v47=>
Qd v47 fun l48 o48=>
kLd g l48 (o48+11) fun v49=>
Qd (t 5) fun l50 o50=>
Zo g l50 o50 5 fun c50=>
C Zar [v49,.agg c50.toArray] g n fun v51 g6 n51=>
Jb .int .neq v51 (.int .i64 0) fun v52=>
Qa v52 (
Jc K (.tuple #[]) g6 n51) (
J (puts t [(43,t 0),(44,v44),(45,(ptr l45 (o45+0))),(46,v46),(47,v47),(48,(ptr l48 (o48+11))),(49,v49),(50,.agg c50.toArray),(51,v51),(52,v52)]) g6 n51)
def JaY (C:CT) (a0:Value) (J:Qj) (g:G) (n:Nat) (K:Cont):Prop:=
C Jag [a0] g n fun v8 g1 n8=>
Xc v8 0 fun v9=>
Xc v8 1 fun v10=>
Xc v8 2 fun v11=>
kUn .not v11 fun v13=>
Qa v13 (
Jc K (.tuple #[]) g1 n8) (
Jg a0 fun v15=>
Qd v15 fun l16 o16=>
kLd g1 l16 (o16+2+0) fun v18=>
Xf [.int .i64 0,.int .i64 0,.int .i64 0,.int .u64 0,.bool false] [(0,none,v18),(1,none,v9)] fun c20=>
Zq [.int .i64 0,.int .i64 0,.int .i64 0,.int .u64 0,.bool false] .exact g1 n8 fun l5 g2 n5=>
Zn (.agg c20.toArray) fun cg3=>
cg3.length=5∧Xu g2 l5 0 cg3 fun g3=>
Jg a0 fun v22=>
Qd v22 fun l23 o23=>
kLd g3 l23 (o23+2+0) fun v25=>
Jb .int .eql v25 (.int .i64 9) fun v26=>
Qa v26 (
Jg a0 fun v29=>
Qd v29 fun l30 o30=>
kLd g3 l30 (o30+0) fun v31=>
Jg a0 fun v33=>
Qd v33 fun l34 o34=>
kLd g3 l34 (o34+2+1) fun v36=>
Jg v31 fun v37=>
Qd v37 fun l38 o38=>
Ji (ptr l38 (o38+1)) v36 8 1 fun v39=>
Qd v39 fun l40 o40=>
kLd g3 l40 o40 fun v40=>
kSt g3 l5 (0+2) v10 fun g4=>
(Qd (ptr l30 (o30+0)) fun l _=>g4 l=g3 l)∧(Qd (ptr l34 (o34+2+1)) fun l _=>g4 l=g3 l)∧(Qd v39 fun l _=>g4 l=g3 l)∧kSt g4 l5 (0+3) v40 fun g5=>
Jaq C K J (puts (Jj [a0]) [(7,a0),(8,v8),(6,v8),(9,v9),(10,v10),(11,v11),(2,v9),(3,v10),(4,v11),(12,v11),(13,v13),(14,a0),(15,v15),(16,(ptr l16 (o16+2))),(17,(ptr l16 (o16+2+0))),(18,v18),(19,v9),(20,.agg c20.toArray),(5,ptr l5 0),(21,a0),(22,v22),(23,(ptr l23 (o23+2))),(24,(ptr l23 (o23+2+0))),(25,v25),(26,v26),(27,v10),(28,a0),(29,v29),(30,(ptr l30 (o30+0))),(31,v31),(32,a0),(33,v33),(34,(ptr l34 (o34+2))),(35,(ptr l34 (o34+2+1))),(36,v36),(37,v37),(38,(ptr l38 (o38+1))),(39,v39),(40,v40),(41,(ptr l5 (0+2))),(42,(ptr l5 (0+3)))]) g5 n5) (
Jaq C K J (puts (Jj [a0]) [(7,a0),(8,v8),(6,v8),(9,v9),(10,v10),(11,v11),(2,v9),(3,v10),(4,v11),(12,v11),(13,v13),(14,a0),(15,v15),(16,(ptr l16 (o16+2))),(17,(ptr l16 (o16+2+0))),(18,v18),(19,v9),(20,.agg c20.toArray),(5,ptr l5 0),(21,a0),(22,v22),(23,(ptr l23 (o23+2))),(24,(ptr l23 (o23+2+0))),(25,v25),(26,v26)]) g3 n5))
def Qbn (C:CT) (a0:Value) (g:G) (n:Nat) (K:Cont):Prop:=JaY C a0 (JW C K (ZD C K)) g n K
theorem Jbx (C:CT) (t:Env) (g:G) (n:Nat) (K:Cont):ZD C K t g n=XQ Tryz.prog C [1,1,1,1,1] Xv K t g n:=by kernel_rfl
theorem XbM (C:CT) (K:Cont):ZD C K=XQ Tryz.prog C [1,1,1,1,1] Xv K:=funext fun t=>funext fun g=>funext fun n=>Jbx C t g n K
theorem Qbz (C:CT) (J:Qj) (t:Env) (g:G) (n:Nat) (K:Cont):JW C K J t g n=Xab Tryz.prog C [1,1,1,1] [1] J Xv K t g n:=by kernel_rfl
theorem XbG (C:CT) (K:Cont):JW C K (ZD C K)=XQ Tryz.prog C [1,1,1,1] Xv K:=by
 rw [XbM]
 exact (funext fun t=>funext fun g=>funext fun n=>Qbz C _ t g n K).trans (ZU Tryz.prog C [1,1,1,1] [1] Xv K)
theorem ZbM (C:CT) (a0:Value) (J:Qj) (g:G) (n:Nat) (K:Cont):JaY C a0 J g n K=Xbl Tryz.prog C [1,1,1,1] J Xv [a0] g n K:=by kernel_rfl
theorem ZcH (C:CT) (a0:Value) (g:G) (n:Nat) (K:Cont):Qbn C a0 g n K=Je Tryz.prog C Xv [a0] g n K:=by
 unfold Qbn
 rw [ZbM,XbG]
 exact Xa0 Tryz.prog C [1,1,1,1] Xv [a0] g n K
def JbA (C:CT) (a0:Value) (g:G) (n:Nat) (K:Cont):Prop:=
C Zad [a0] g n fun v3 g1 n3=>
Qa v3 (
C Ql [a0,.int .i64 7,.int .i64 0,.int .i64 0,.int .u64 0] g1 n3 fun v5 g2 n5=>
C Xq [a0] g2 n5 fun v7 g3 n7=>
Jc K (.tuple #[]) g3 n7) (
Jc K (.tuple #[]) g1 n3)
theorem Xcj (C:CT) (a0:Value) (g:G) (n:Nat) (K:Cont):JbA C a0 g n K=Je Tryz.prog C Jaz [a0] g n K:=by kernel_rfl
def Q7 (C:CT) (K:Cont) (J:Qj) (t:Env) (g:G) (n:Nat):Prop:=
J t g n
def Q8 (C:CT) (K:Cont) (t:Env) (g:G) (n:Nat):Prop:=
Jg (t 0) fun v119=>
Qd v119 fun l120 o120=>
kLd g l120 (o120+0) fun v121=>
Jg (t 0) fun v123=>
Qd v123 fun l124 o124=>
kLd g l124 (o124+2+1) fun v126=>
Jg v121 fun v128=>
Qd v128 fun l129 o129=>
Ji (ptr l129 (o129+1)) v126 8 1 fun v130=>
Qd v130 fun lg8 og8=>
kSt g lg8 og8 (t 5) fun g8=>
C Xq [t 0] g8 n fun v132 g9 n132=>
Jc K (.tuple #[]) g9 n132
def Zv (C:CT) (K:Cont) (t:Env) (g:G) (n:Nat):Prop:=
Qa (t 8) (
Jg (t 0) fun v99=>
Qd v99 fun l100 o100=>
kLd g l100 (o100+1) fun v101=>
Jg (t 0) fun v103=>
Qd v103 fun l104 o104=>
kLd g l104 (o104+0) fun v105=>
Jg v105 fun v106=>
Qd v106 fun l107 o107=>
kLd g l107 (o107+0) fun v108=>
C JZ [v101,v108,t 2,t 3,t 7] g n fun v112 g6 n112=>
C Ql [t 0,.int .i64 3,t 2,t 3,t 7] g6 n112 fun v117 g7 n117=>
Q8 C K (puts t [(97,t 8),(98,t 0),(99,v99),(100,(ptr l100 (o100+1))),(101,v101),(102,t 0),(103,v103),(104,(ptr l104 (o104+0))),(105,v105),(106,v106),(107,(ptr l107 (o107+0))),(108,v108),(109,t 2),(110,t 3),(111,t 7),(112,v112),(113,t 0),(114,t 2),(115,t 3),(116,t 7),(117,v117)]) g7 n117) (
Q8 C K (puts t [(97,t 8)]) g n)
def QI (C:CT) (K:Cont) (J:Qj) (t:Env) (g:G) (n:Nat):Prop:=
Jg (t 0) fun v61=>
Qd v61 fun l62 o62=>
kLd g l62 (o62+0) fun v63=>
Jg (t 0) fun v65=>
Qd v65 fun l66 o66=>
kLd g l66 (o66+2+3) fun v68=>
Jg v63 fun v69=>
Qd v69 fun l70 o70=>
Ji (ptr l70 (o70+1)) v68 8 1 fun v71=>
Qd v71 fun l72 o72=>
kLd g l72 o72 fun v72=>
Jg (t 0) fun v75=>
Qd v75 fun l76 o76=>
kLd g l76 (o76+0) fun v77=>
Jg (t 0) fun v79=>
Qd v79 fun l80 o80=>
kLd g l80 (o80+2+1) fun v82=>
Jg v77 fun v83=>
Qd v83 fun l84 o84=>
Ji (ptr l84 (o84+1)) v82 8 1 fun v85=>
Qd v85 fun l86 o86=>
kLd g l86 o86 fun v86=>
Jb .int .eql (t 5) v86 fun v87=>
Jg (t 0) fun v89=>
Qd v89 fun l90 o90=>
kLd g l90 (o90+2+0) fun v92=>
Jb .int .eql v92 (.int .i64 11) fun v93=>
Qa v93 (
Jb .int .add (t 5) v72 fun v96=>
Q7 C K J (puts t [(60,t 0),(61,v61),(62,(ptr l62 (o62+0))),(63,v63),(64,t 0),(65,v65),(66,(ptr l66 (o66+2))),(67,(ptr l66 (o66+2+3))),(68,v68),(69,v69),(70,(ptr l70 (o70+1))),(71,v71),(72,v72),(73,t 5),(74,t 0),(75,v75),(76,(ptr l76 (o76+0))),(77,v77),(78,t 0),(79,v79),(80,(ptr l80 (o80+2))),(81,(ptr l80 (o80+2+1))),(82,v82),(83,v83),(84,(ptr l84 (o84+1))),(85,v85),(86,v86),(87,v87),(7,v72),(8,v87),(88,t 0),(89,v89),(90,(ptr l90 (o90+2))),(91,(ptr l90 (o90+2+0))),(92,v92),(93,v93),(94,t 5),(95,v72),(96,v96),(7,v96),(8,.bool true)]) g n) (
Q7 C K J (puts t [(60,t 0),(61,v61),(62,(ptr l62 (o62+0))),(63,v63),(64,t 0),(65,v65),(66,(ptr l66 (o66+2))),(67,(ptr l66 (o66+2+3))),(68,v68),(69,v69),(70,(ptr l70 (o70+1))),(71,v71),(72,v72),(73,t 5),(74,t 0),(75,v75),(76,(ptr l76 (o76+0))),(77,v77),(78,t 0),(79,v79),(80,(ptr l80 (o80+2))),(81,(ptr l80 (o80+2+1))),(82,v82),(83,v83),(84,(ptr l84 (o84+1))),(85,v85),(86,v86),(87,v87),(7,v72),(8,v87),(88,t 0),(89,v89),(90,(ptr l90 (o90+2))),(91,(ptr l90 (o90+2+0))),(92,v92),(93,v93)]) g n)
def ZaC (C:CT) (a0:Value) (J:Qj) (g:G) (n:Nat) (K:Cont):Prop:=
C Jag [a0] g n fun v11 g1 n11=>
Xc v11 0 fun v12=>
Xc v11 1 fun v13=>
Xc v11 2 fun v14=>
kUn .not v14 fun v16=>
Qa v16 (
Jc K (.tuple #[]) g1 n11) (
C Zad [a0] g1 n11 fun v19 g2 n19=>
kUn .not v19 fun v20=>
Qa v20 (
Jc K (.tuple #[]) g2 n19) (
Jg a0 fun v24=>
Qd v24 fun l25 o25=>
kLd g2 l25 (o25+1) fun v26=>
Jg a0 fun v28=>
Qd v28 fun l29 o29=>
kLd g2 l29 (o29+0) fun v30=>
Jg v30 fun v31=>
Qd v31 fun l32 o32=>
kLd g2 l32 (o32+0) fun v33=>
C Qan [v26,v33,v12] g2 n19 fun v35 g3 n35=>
kUn .not v35 fun v36=>
Qa v36 (
Jc K (.tuple #[]) g3 n35) (
Jg a0 fun v40=>
Qd v40 fun l41 o41=>
kLd g3 l41 (o41+1) fun v42=>
Jg a0 fun v44=>
Qd v44 fun l45 o45=>
kLd g3 l45 (o45+0) fun v46=>
Jg v46 fun v47=>
Qd v47 fun l48 o48=>
kLd g3 l48 (o48+0) fun v49=>
C Z9 [v42,v49,v12,v13] g3 n35 fun v52 g4 n52=>
Xc v52 0 fun v53=>
Xc v52 1 fun v54=>
C Ql [a0,.int .i64 4,v12,v13,v53] g4 n52 fun v59 g5 n59=>
J (puts (Jj [a0]) [(10,a0),(11,v11),(9,v11),(12,v12),(13,v13),(14,v14),(2,v12),(3,v13),(4,v14),(15,v14),(16,v16),(17,.bool false),(18,a0),(19,v19),(20,v20),(21,v20),(22,.bool false),(23,a0),(24,v24),(25,(ptr l25 (o25+1))),(26,v26),(27,a0),(28,v28),(29,(ptr l29 (o29+0))),(30,v30),(31,v31),(32,(ptr l32 (o32+0))),(33,v33),(34,v12),(35,v35),(36,v36),(37,v36),(39,a0),(40,v40),(41,(ptr l41 (o41+1))),(42,v42),(43,a0),(44,v44),(45,(ptr l45 (o45+0))),(46,v46),(47,v47),(48,(ptr l48 (o48+0))),(49,v49),(50,v12),(51,v13),(52,v52),(38,v52),(53,v53),(54,v54),(5,v53),(6,v54),(55,a0),(56,v12),(57,v13),(58,v53),(59,v59)]) g5 n59)))
def ZaM (C:CT) (a0:Value) (g:G) (n:Nat) (K:Cont):Prop:=ZaC C a0 (QI C K (Zv C K)) g n K
theorem Qa7 (C:CT) (t:Env) (g:G) (n:Nat) (K:Cont):Zv C K t g n=XQ Tryz.prog C [1,1,1,1,1,1] Xp K t g n:=by kernel_rfl
theorem Za9 (C:CT) (K:Cont):Zv C K=XQ Tryz.prog C [1,1,1,1,1,1] Xp K:=funext fun t=>funext fun g=>funext fun n=>Qa7 C t g n K
theorem Za8 (C:CT) (J:Qj) (t:Env) (g:G) (n:Nat) (K:Cont):QI C K J t g n=Xab Tryz.prog C [1,1,1,1] [1,1] J Xp K t g n:=by kernel_rfl
theorem Zbb (C:CT) (K:Cont):QI C K (Zv C K)=XQ Tryz.prog C [1,1,1,1] Xp K:=by
 rw [Za9]
 exact (funext fun t=>funext fun g=>funext fun n=>Za8 C _ t g n K).trans (ZU Tryz.prog C [1,1,1,1] [1,1] Xp K)
theorem Ja8 (C:CT) (a0:Value) (J:Qj) (g:G) (n:Nat) (K:Cont):ZaC C a0 J g n K=Xbl Tryz.prog C [1,1,1,1] J Xp [a0] g n K:=by kernel_rfl
theorem Zb9 (C:CT) (a0:Value) (g:G) (n:Nat) (K:Cont):ZaM C a0 g n K=Je Tryz.prog C Xp [a0] g n K:=by
 unfold ZaM
 rw [Ja8,Zbb]
 exact Xa0 Tryz.prog C [1,1,1,1] Xp [a0] g n K
def Xbv (C:CT) (a0:Value) (g:G) (n:Nat) (K:Cont):Prop:=
Jg a0 fun v9=>
Qd v9 fun l10 o10=>
kLd g l10 (o10+0) fun v11=>
Jg v11 fun v12=>
Qd v12 fun l13 o13=>
Jg a0 fun v15=>
Qd v15 fun l16 o16=>
Zo g l16 (o16+2) 5 fun c17=>
Zq [.int .i64 0,.int .i64 0,.int .i64 0,.int .i64 0,.int .i64 0] .exact g n fun l3 g1 n3=>
(Qd (ptr l10 (o10+0)) fun l _=>g1 l=g l)∧(Qd (ptr l16 (o16+2)) fun l _=>g1 l=g l)∧Zn (.agg c17.toArray) fun cg2=>
cg2.length=5∧Xu g1 l3 0 cg2 fun g2=>
C Xq [a0] g2 n3 fun v19 g3 n19=>
kLd g3 l3 (0+0) fun v22=>
kLd g3 l3 (0+2) fun v25=>
Ji (ptr l13 (o13+1)) v25 8 1 fun v27=>
Qd v27 fun l28 o28=>
kLd g3 l28 o28 fun v28=>
kLd g3 l3 (0+3) fun v31=>
Ji (ptr l13 (o13+1)) v31 8 1 fun v33=>
Qd v33 fun l34 o34=>
kLd g3 l34 o34 fun v34=>
C Qda [v22,v28,v34] g3 n19 fun v35 g4 n35=>
Xc v35 0 fun v36=>
Xc v35 1 fun v37=>
Qa v37 (
kLd g4 l3 (0+1) fun v41=>
Ji (ptr l13 (o13+1)) v41 8 1 fun v44=>
Qd v44 fun lg5 og5=>
kSt g4 lg5 og5 v36 fun g5=>
Jc K (.tuple #[]) g5 n35) (
kLd g4 l3 (0+0) fun v47=>
kLd g4 l3 (0+1) fun v50=>
Ji (ptr l13 (o13+1)) v50 8 1 fun v52=>
Qd v52 fun l53 o53=>
kLd g4 l53 o53 fun v53=>
kLd g4 l3 (0+2) fun v56=>
Ji (ptr l13 (o13+1)) v56 8 1 fun v58=>
Qd v58 fun l59 o59=>
kLd g4 l59 o59 fun v59=>
C Qb5 [v47,v53,v59] g4 n35 fun v60 g6 n60=>
Xc v60 0 fun v61=>
Xc v60 1 fun v62=>
Qa v61 (
Jg a0 fun v65=>
Qd v65 fun l66 o66=>
kLd g6 l66 (o66+0) fun v67=>
kLd g6 l3 (0+4) fun v69=>
Jg v67 fun v70=>
Qd v70 fun l71 o71=>
kSt g6 l71 (o71+9) v69 fun g7=>
Jc K (.tuple #[]) g7 n60) (
Jc K (.tuple #[]) g6 n60))
theorem Qb1 (C:CT) (a0:Value) (g:G) (n:Nat) (K:Cont):Xbv C a0 g n K=Je Tryz.prog C Qas [a0] g n K:=by kernel_rfl
def XbF (C:CT) (a0:Value) (g:G) (n:Nat) (K:Cont):Prop:=
Jb .ptr .eql a0 (.pointer none) fun v4=>
Qa v4 (
Jc K (.int .i64 0) g n) (
Jg a0 fun v6=>
Qd v6 fun l7 o7=>
kLd g l7 (o7+82) fun v8=>
Jc K v8 g n)
theorem Xch (C:CT) (a0:Value) (g:G) (n:Nat) (K:Cont):XbF C a0 g n K=Je Tryz.prog C JC [a0] g n K:=by kernel_rfl
def QbX (C:CT) (a0 a1:Value) (g:G) (n:Nat) (K:Cont):Prop:=
Jg a0 fun v6=>
Qd v6 fun l7 o7=>
kLd g l7 (o7+81) fun v8=>
Jb .int .add v8 a1 fun v10=>
Jb .int .rem v10 (.int .i64 16) fun v11=>
Jc K v11 g n
theorem Qcu (C:CT) (a0 a1:Value) (g:G) (n:Nat) (K:Cont):QbX C a0 a1 g n K=Je Tryz.prog C JA [a0,a1] g n K:=by kernel_rfl
def Zbd (C:CT) (a0 a1 a2 a3:Value) (g:G) (n:Nat) (K:Cont):Prop:=
Jb .ptr .eql a0 (.pointer none) fun v12=>
Qa v12 (
Jc K (.tuple #[.bool false,.slice none 0 0]) g n) (
C JaW [a1,a2] g n fun v16 g1 n16=>
kUn .not v16 fun v17=>
Qa v17 (
Jc K (.tuple #[.bool false,.slice none 0 0]) g1 n16) (
C JP [a0,a1] g1 n16 fun v21 g2 n21=>
kUn .not v21 fun v22=>
Qa v22 (
C JY [a0,a1] g2 n21 fun v25 g3 n25=>
Jc K (.tuple #[.bool false,v25]) g3 n25) (
C Zs [a0,a1] g2 n21 fun v28 g4 n28=>
Zq [.int .i64 0,.int .i64 0,.int .u64 0,.int .u64 0,.int .u64 0,.int .u64 0,.int .u64 0,.int .u64 0,.int .u64 0,.int .u64 0,.int .i64 0] .exact g4 n28 fun l10 g5 n10=>
Zn v28 fun cg6=>
cg6.length=11∧Xu g5 l10 0 cg6 fun g6=>
Ji (ptr l10 (0+2)) a2 8 1 fun v32=>
Qd v32 fun lg7 og7=>
kSt g6 lg7 og7 a3 fun g7=>
Jg a0 fun v34=>
Qd v34 fun l35 o35=>
kLd g7 l35 (o35+0) fun v36=>
Zo g7 l10 (0+2) 8 fun c39=>
C ZJ [v36,a1,.int .i64 3,.agg c39.toArray] g7 n10 fun v40 g8 n40=>
Jc K (.tuple #[.bool true,.slice none 0 0]) g8 n40)))
theorem QbU (C:CT) (a0 a1 a2 a3:Value) (g:G) (n:Nat) (K:Cont):Zbd C a0 a1 a2 a3 g n K=Je Tryz.prog C Xak [a0,a1,a2,a3] g n K:=by kernel_rfl
def Jbq (C:CT) (K:Cont) (I_l1:Qj) (t:Env) (g:G) (n:Nat):Prop:=
Jb .int .lss (t 8) (t 7) fun v9=>
Qa v9 (
Xd (t 6) (t 8) 12 fun v10=>
Qd v10 fun l11 o11=>
Zo g l11 o11 12 fun c11=>
Zq [.int .i64 0,.int .i64 0,.bool false,.bool false,.int .u64 0,.int .u64 0,.int .u64 0,.int .u64 0,.int .u64 0,.int .u64 0,.int .u64 0,.int .u64 0] .exact g n fun l5 g1 n5=>
Zn (.agg c11.toArray) fun cg2=>
cg2.length=12∧Xu g1 l5 0 cg2 fun g2=>
Jg (t 0) fun v13=>
Qd v13 fun l14 o14=>
Zo g2 l5 0 12 fun c15=>
C Jq [(ptr l14 (o14+1)),.agg c15.toArray] g2 n5 fun v16 g3 n16=>
Jb .int .add (t 8) (.int .i64 1) fun v17=>
I_l1 (puts t [(9,v9),(10,v10),(11,.agg c11.toArray),(5,ptr l5 0),(12,t 0),(13,v13),(14,(ptr l14 (o14+1))),(15,.agg c15.toArray),(16,v16),(17,v17),(8,v17)]) g3 n16) (
Jc K (.tuple #[]) g n)
def Qcm (C:CT) (a0 a1:Value) (g:G) (n:Nat) (K:Cont):Prop:=
Jaw a1 fun v7=>
lfp (Jbq C K) (puts (Jj [a0,a1]) [(6,a1),(7,v7),(8,.int .i64 0)]) g n
theorem QcK (C:CT) (a0 a1:Value) (g:G) (n:Nat) (K:Cont):Qcm C a0 a1 g n K=Je Tryz.prog C Jaa [a0,a1] g n K:=by kernel_rfl
def Xbc (C:CT) (a0 a1 a2 a3:Value) (g:G) (n:Nat) (K:Cont):Prop:=
C Xt [a0,a1] g n fun v12 g1 n12=>
Jb .ptr .eql v12 (.pointer none) fun v14=>
Qa v14 (
Jc K (.int .i64 1) g1 n12) (
C Qv [a0,a2] g1 n12 fun v18 g2 n18=>
kUn .not v18 fun v19=>
Qa v19 (
Jc K (.int .i64 1) g2 n18) (
Jb .int .neq a3 (.int .i64 4) fun v23=>
Qa v23 (
Jb .int .neq a3 (.int .i64 5) fun v26=>
Qa v26 (
Jc K (.int .i64 1) g2 n18) (
Jg v12 fun v30=>
Qd v30 fun l31 o31=>
Xf [.int .i64 0,.int .i64 0,.bool false,.bool false,.int .u64 0,.int .u64 0,.int .u64 0,.int .u64 0,.int .u64 0,.int .u64 0,.int .u64 0,.int .u64 0] [(0,none,a3),(1,none,a2)] fun c34=>
C Jq [(ptr l31 (o31+1)),.agg c34.toArray] g2 n18 fun v35 g3 n35=>
Jc K v35 g3 n35)) (
Jg v12 fun v30=>
Qd v30 fun l31 o31=>
Xf [.int .i64 0,.int .i64 0,.bool false,.bool false,.int .u64 0,.int .u64 0,.int .u64 0,.int .u64 0,.int .u64 0,.int .u64 0,.int .u64 0,.int .u64 0] [(0,none,a3),(1,none,a2)] fun c34=>
C Jq [(ptr l31 (o31+1)),.agg c34.toArray] g2 n18 fun v35 g4 n35=>
Jc K v35 g4 n35)))
theorem ZbS (C:CT) (a0 a1 a2 a3:Value) (g:G) (n:Nat) (K:Cont):Xbc C a0 a1 a2 a3 g n K=Je Tryz.prog C Xal [a0,a1,a2,a3] g n K:=by kernel_rfl
def JaI (C:CT) (a0 a1:Value) (g:G) (n:Nat) (K:Cont):Prop:=
Jg a0 fun v6=>
Qd v6 fun l7 o7=>
C Jbj [(ptr l7 (o7+0)),a1] g n fun v9 g1 n9=>
Jc K v9 g1 n9
theorem Zbe (C:CT) (a0 a1:Value) (g:G) (n:Nat) (K:Cont):JaI C a0 a1 g n K=Je Tryz.prog C ZB [a0,a1] g n K:=by kernel_rfl
def Qcg (C:CT) (a0:Value) (g:G) (n:Nat) (K:Cont):Prop:=
Jb .ptr .eql a0 (.pointer none) fun v4=>
Qa v4 (
Jc K (.int .i64 0) g n) (
Jg a0 fun v6=>
Qd v6 fun l7 o7=>
kLd g l7 (o7+0) fun v8=>
Jaw v8 fun v9=>
Jc K v9 g n)
theorem QcH (C:CT) (a0:Value) (g:G) (n:Nat) (K:Cont):Qcg C a0 g n K=Je Tryz.prog C Zaq [a0] g n K:=by kernel_rfl
def Xc8 (C:CT) (K:Cont) (t:Env) (g:G) (n:Nat):Prop:=
Qa (t 87) (
Qd (t 1) fun l90 o90=>
kLd g l90 (o90+13) fun v91=>
C ZaG [v91] g n fun v92 g4 n92=>
Jc K v92 g4 n92) (
Jc K (.bool false) g n)
def JJ (C:CT) (K:Cont) (t:Env) (g:G) (n:Nat):Prop:=
Qa (t 76) (
Qd (t 1) fun l79 o79=>
kLd g l79 (o79+13) fun v80=>
C ZaG [v80] g n fun v81 g3 n81=>
Qa v81 (
Qd (t 1) fun l83 o83=>
kLd g3 l83 (o83+14) fun v84=>
Jb .int .neq v84 (.int .u8 0) fun v85=>
Jc K v85 g3 n81) (
Jc K (.bool false) g3 n81)) (
Jb .int .eql (t 65) (.int .i64 4) fun v88=>
Qa v88 (
Xc8 C K (puts t [(88,v88),(87,v88)]) g n) (
Jb .int .eql (t 65) (.int .i64 5) fun v89=>
Xc8 C K (puts t [(88,v88),(87,v88),(89,v89),(87,v89)]) g n))
def Xex (C:CT) (a0:Value) (g:G) (n:Nat) (K:Cont):Prop:=
Zn a0 fun c1=>
Zq c1 .exact g n fun l1 g1 n1=>
kLd g1 l1 (0+10) fun v5=>
Jb .int .geq v5 (.int .i64 0) fun v6=>
Qa v6 (
kLd g1 l1 (0+10) fun v14=>
Jb .int .lss v14 (.int .i64 (-1)) fun v15=>
Qa v15 (
Jc K (.bool false) g1 n1) (
kLd g1 l1 (0+10) fun v18=>
Jb .int .geq v18 (.int .i64 8) fun v19=>
Qa v19 (
Jc K (.bool false) g1 n1) (
kLd g1 l1 (0+10) fun v23=>
Jb .int .geq v23 (.int .i64 0) fun v24=>
Qa v24 (
kLd g1 l1 (0+11) fun v27=>
Jb .int .neq v27 (.int .u8 0) fun v28=>
Qa v28 (
Jc K (.bool false) g1 n1) (
kLd g1 l1 (0+0) fun v33=>
kUn .not v33 fun v34=>
Qa v34 (
kLd g1 l1 (0+1) fun v37=>
Qa v37 (
Jc K (.bool false) g1 n1) (
Jc K (.bool false) g1 n1)) (
kLd g1 l1 (0+14) fun v55=>
kLd g1 l1 (0+11) fun v57=>
kLd g1 l1 (0+10) fun v59=>
C Zu [v59] g1 n1 fun v60 g2 n60=>
(Qd (ptr l1 (0+14)) fun l _=>g2 l=g1 l)∧(Qd (ptr l1 (0+11)) fun l _=>g2 l=g1 l)∧Jb .int .or v57 v60 fun v61=>
Jb .int .andNot v55 v61 fun v62=>
Jb .int .neq v62 (.int .u8 0) fun v63=>
Qa v63 (
Jc K (.bool false) g2 n60) (
kLd g2 l1 (0+12) fun v65=>
Jb .int .eql v65 (.int .i64 0) fun v67=>
Qa v67 (
kLd g2 l1 (0+13) fun v69=>
Jb .int .eql v69 (.int .i64 0) fun v70=>
Qa v70 (
kLd g2 l1 (0+14) fun v73=>
Jb .int .eql v73 (.int .u8 0) fun v74=>
Jc K v74 g2 n60) (
Jc K (.bool false) g2 n60)) (
Jb .int .eql v65 (.int .i64 1) fun v77=>
Qa v77 (
JJ C K (puts (Jj [a0]) [(1,ptr l1 0),(2,.bool false),(4,(ptr l1 (0+10))),(5,v5),(6,v6),(7,.bool true),(8,undef),(9,undef),(10,undef),(11,.bool true),(3,.bool true),(13,(ptr l1 (0+10))),(14,v14),(15,v15),(16,.bool false),(17,(ptr l1 (0+10))),(18,v18),(19,v19),(20,v19),(21,.bool false),(22,(ptr l1 (0+10))),(23,v23),(24,v24),(25,.bool true),(26,(ptr l1 (0+11))),(27,v27),(28,v28),(29,v28),(30,v28),(12,v28),(32,(ptr l1 (0+0))),(33,v33),(34,v34),(35,.bool false),(36,undef),(37,undef),(38,undef),(39,undef),(40,undef),(41,undef),(42,undef),(43,undef),(44,undef),(45,undef),(46,undef),(47,undef),(48,undef),(49,undef),(50,undef),(51,undef),(52,.bool false),(31,.bool false),(54,(ptr l1 (0+14))),(55,v55),(56,(ptr l1 (0+11))),(57,v57),(58,(ptr l1 (0+10))),(59,v59),(60,v60),(61,v61),(62,v62),(63,v63),(53,v63),(64,(ptr l1 (0+12))),(65,v65),(67,v67),(66,v67),(77,v77),(76,v77)]) g2 n60) (
Jb .int .eql v65 (.int .i64 2) fun v78=>
JJ C K (puts (Jj [a0]) [(1,ptr l1 0),(2,.bool false),(4,(ptr l1 (0+10))),(5,v5),(6,v6),(7,.bool true),(8,undef),(9,undef),(10,undef),(11,.bool true),(3,.bool true),(13,(ptr l1 (0+10))),(14,v14),(15,v15),(16,.bool false),(17,(ptr l1 (0+10))),(18,v18),(19,v19),(20,v19),(21,.bool false),(22,(ptr l1 (0+10))),(23,v23),(24,v24),(25,.bool true),(26,(ptr l1 (0+11))),(27,v27),(28,v28),(29,v28),(30,v28),(12,v28),(32,(ptr l1 (0+0))),(33,v33),(34,v34),(35,.bool false),(36,undef),(37,undef),(38,undef),(39,undef),(40,undef),(41,undef),(42,undef),(43,undef),(44,undef),(45,undef),(46,undef),(47,undef),(48,undef),(49,undef),(50,undef),(51,undef),(52,.bool false),(31,.bool false),(54,(ptr l1 (0+14))),(55,v55),(56,(ptr l1 (0+11))),(57,v57),(58,(ptr l1 (0+10))),(59,v59),(60,v60),(61,v61),(62,v62),(63,v63),(53,v63),(64,(ptr l1 (0+12))),(65,v65),(67,v67),(66,v67),(77,v77),(76,v77),(78,v78),(76,v78)]) g2 n60)))))) (
kLd g1 l1 (0+0) fun v33=>
kUn .not v33 fun v34=>
Qa v34 (
kLd g1 l1 (0+1) fun v37=>
Qa v37 (
Jc K (.bool false) g1 n1) (
Jc K (.bool false) g1 n1)) (
kLd g1 l1 (0+14) fun v55=>
kLd g1 l1 (0+11) fun v57=>
kLd g1 l1 (0+10) fun v59=>
C Zu [v59] g1 n1 fun v60 g5 n60=>
(Qd (ptr l1 (0+14)) fun l _=>g5 l=g1 l)∧(Qd (ptr l1 (0+11)) fun l _=>g5 l=g1 l)∧Jb .int .or v57 v60 fun v61=>
Jb .int .andNot v55 v61 fun v62=>
Jb .int .neq v62 (.int .u8 0) fun v63=>
Qa v63 (
Jc K (.bool false) g5 n60) (
kLd g5 l1 (0+12) fun v65=>
Jb .int .eql v65 (.int .i64 0) fun v67=>
Qa v67 (
kLd g5 l1 (0+13) fun v69=>
Jb .int .eql v69 (.int .i64 0) fun v70=>
Qa v70 (
kLd g5 l1 (0+14) fun v73=>
Jb .int .eql v73 (.int .u8 0) fun v74=>
Jc K v74 g5 n60) (
Jc K (.bool false) g5 n60)) (
Jb .int .eql v65 (.int .i64 1) fun v77=>
Qa v77 (
JJ C K (puts (Jj [a0]) [(1,ptr l1 0),(2,.bool false),(4,(ptr l1 (0+10))),(5,v5),(6,v6),(7,.bool true),(8,undef),(9,undef),(10,undef),(11,.bool true),(3,.bool true),(13,(ptr l1 (0+10))),(14,v14),(15,v15),(16,.bool false),(17,(ptr l1 (0+10))),(18,v18),(19,v19),(20,v19),(21,.bool false),(22,(ptr l1 (0+10))),(23,v23),(24,v24),(25,.bool false),(26,undef),(27,undef),(28,undef),(29,.bool false),(30,.bool false),(12,.bool false),(32,(ptr l1 (0+0))),(33,v33),(34,v34),(35,.bool false),(36,undef),(37,undef),(38,undef),(39,undef),(40,undef),(41,undef),(42,undef),(43,undef),(44,undef),(45,undef),(46,undef),(47,undef),(48,undef),(49,undef),(50,undef),(51,undef),(52,.bool false),(31,.bool false),(54,(ptr l1 (0+14))),(55,v55),(56,(ptr l1 (0+11))),(57,v57),(58,(ptr l1 (0+10))),(59,v59),(60,v60),(61,v61),(62,v62),(63,v63),(53,v63),(64,(ptr l1 (0+12))),(65,v65),(67,v67),(66,v67),(77,v77),(76,v77)]) g5 n60) (
Jb .int .eql v65 (.int .i64 2) fun v78=>
JJ C K (puts (Jj [a0]) [(1,ptr l1 0),(2,.bool false),(4,(ptr l1 (0+10))),(5,v5),(6,v6),(7,.bool true),(8,undef),(9,undef),(10,undef),(11,.bool true),(3,.bool true),(13,(ptr l1 (0+10))),(14,v14),(15,v15),(16,.bool false),(17,(ptr l1 (0+10))),(18,v18),(19,v19),(20,v19),(21,.bool false),(22,(ptr l1 (0+10))),(23,v23),(24,v24),(25,.bool false),(26,undef),(27,undef),(28,undef),(29,.bool false),(30,.bool false),(12,.bool false),(32,(ptr l1 (0+0))),(33,v33),(34,v34),(35,.bool false),(36,undef),(37,undef),(38,undef),(39,undef),(40,undef),(41,undef),(42,undef),(43,undef),(44,undef),(45,undef),(46,undef),(47,undef),(48,undef),(49,undef),(50,undef),(51,undef),(52,.bool false),(31,.bool false),(54,(ptr l1 (0+14))),(55,v55),(56,(ptr l1 (0+11))),(57,v57),(58,(ptr l1 (0+10))),(59,v59),(60,v60),(61,v61),(62,v62),(63,v63),(53,v63),(64,(ptr l1 (0+12))),(65,v65),(67,v67),(66,v67),(77,v77),(76,v77),(78,v78),(76,v78)]) g5 n60)))))))) (
kLd g1 l1 (0+11) fun v9=>
Jb .int .neq v9 (.int .u8 0) fun v10=>
kLd g1 l1 (0+10) fun v14=>
Jb .int .lss v14 (.int .i64 (-1)) fun v15=>
Qa v15 (
Jc K (.bool false) g1 n1) (
kLd g1 l1 (0+10) fun v18=>
Jb .int .geq v18 (.int .i64 8) fun v19=>
Qa v19 (
Jc K (.bool false) g1 n1) (
kLd g1 l1 (0+10) fun v23=>
Jb .int .geq v23 (.int .i64 0) fun v24=>
Qa v24 (
kLd g1 l1 (0+11) fun v27=>
Jb .int .neq v27 (.int .u8 0) fun v28=>
Qa v28 (
Jc K (.bool false) g1 n1) (
kLd g1 l1 (0+0) fun v33=>
kUn .not v33 fun v34=>
Qa v34 (
kLd g1 l1 (0+1) fun v37=>
Qa v37 (
Jc K (.bool false) g1 n1) (
Qa v10 (
Jc K (.bool false) g1 n1) (
kLd g1 l1 (0+12) fun v43=>
Jb .int .neq v43 (.int .i64 0) fun v44=>
Qa v44 (
Jc K (.bool false) g1 n1) (
Zo g1 l1 (0+2) 8 fun c48=>
Xf [.int .u64 0,.int .u64 0,.int .u64 0,.int .u64 0,.int .u64 0,.int .u64 0,.int .u64 0,.int .u64 0] [] fun c49=>
Jb (.agg [.i,.i,.i,.i,.i,.i,.i,.i]) .neq (.agg c48.toArray) (.agg c49.toArray) fun v50=>
Qa v50 (
Jc K (.bool false) g1 n1) (
kLd g1 l1 (0+14) fun v55=>
kLd g1 l1 (0+11) fun v57=>
kLd g1 l1 (0+10) fun v59=>
C Zu [v59] g1 n1 fun v60 g6 n60=>
(Qd (ptr l1 (0+14)) fun l _=>g6 l=g1 l)∧(Qd (ptr l1 (0+11)) fun l _=>g6 l=g1 l)∧Jb .int .or v57 v60 fun v61=>
Jb .int .andNot v55 v61 fun v62=>
Jb .int .neq v62 (.int .u8 0) fun v63=>
Qa v63 (
Jc K (.bool false) g6 n60) (
kLd g6 l1 (0+12) fun v65=>
Jb .int .eql v65 (.int .i64 0) fun v67=>
Qa v67 (
kLd g6 l1 (0+13) fun v69=>
Jb .int .eql v69 (.int .i64 0) fun v70=>
Qa v70 (
kLd g6 l1 (0+14) fun v73=>
Jb .int .eql v73 (.int .u8 0) fun v74=>
Jc K v74 g6 n60) (
Jc K (.bool false) g6 n60)) (
Jb .int .eql v65 (.int .i64 1) fun v77=>
Qa v77 (
JJ C K (puts (Jj [a0]) [(1,ptr l1 0),(2,.bool false),(4,(ptr l1 (0+10))),(5,v5),(6,v6),(7,.bool false),(8,(ptr l1 (0+11))),(9,v9),(10,v10),(11,v10),(3,v10),(13,(ptr l1 (0+10))),(14,v14),(15,v15),(16,.bool false),(17,(ptr l1 (0+10))),(18,v18),(19,v19),(20,v19),(21,.bool false),(22,(ptr l1 (0+10))),(23,v23),(24,v24),(25,.bool true),(26,(ptr l1 (0+11))),(27,v27),(28,v28),(29,v28),(30,v28),(12,v28),(32,(ptr l1 (0+0))),(33,v33),(34,v34),(35,.bool true),(36,(ptr l1 (0+1))),(37,v37),(38,.bool false),(39,v10),(40,v10),(41,.bool false),(42,(ptr l1 (0+12))),(43,v43),(44,v44),(45,v44),(46,.bool false),(47,(ptr l1 (0+2))),(48,.agg c48.toArray),(49,.agg c49.toArray),(50,v50),(51,v50),(52,v50),(31,v50),(54,(ptr l1 (0+14))),(55,v55),(56,(ptr l1 (0+11))),(57,v57),(58,(ptr l1 (0+10))),(59,v59),(60,v60),(61,v61),(62,v62),(63,v63),(53,v63),(64,(ptr l1 (0+12))),(65,v65),(67,v67),(66,v67),(77,v77),(76,v77)]) g6 n60) (
Jb .int .eql v65 (.int .i64 2) fun v78=>
JJ C K (puts (Jj [a0]) [(1,ptr l1 0),(2,.bool false),(4,(ptr l1 (0+10))),(5,v5),(6,v6),(7,.bool false),(8,(ptr l1 (0+11))),(9,v9),(10,v10),(11,v10),(3,v10),(13,(ptr l1 (0+10))),(14,v14),(15,v15),(16,.bool false),(17,(ptr l1 (0+10))),(18,v18),(19,v19),(20,v19),(21,.bool false),(22,(ptr l1 (0+10))),(23,v23),(24,v24),(25,.bool true),(26,(ptr l1 (0+11))),(27,v27),(28,v28),(29,v28),(30,v28),(12,v28),(32,(ptr l1 (0+0))),(33,v33),(34,v34),(35,.bool true),(36,(ptr l1 (0+1))),(37,v37),(38,.bool false),(39,v10),(40,v10),(41,.bool false),(42,(ptr l1 (0+12))),(43,v43),(44,v44),(45,v44),(46,.bool false),(47,(ptr l1 (0+2))),(48,.agg c48.toArray),(49,.agg c49.toArray),(50,v50),(51,v50),(52,v50),(31,v50),(54,(ptr l1 (0+14))),(55,v55),(56,(ptr l1 (0+11))),(57,v57),(58,(ptr l1 (0+10))),(59,v59),(60,v60),(61,v61),(62,v62),(63,v63),(53,v63),(64,(ptr l1 (0+12))),(65,v65),(67,v67),(66,v67),(77,v77),(76,v77),(78,v78),(76,v78)]) g6 n60)))))))) (
kLd g1 l1 (0+14) fun v55=>
kLd g1 l1 (0+11) fun v57=>
kLd g1 l1 (0+10) fun v59=>
C Zu [v59] g1 n1 fun v60 g7 n60=>
(Qd (ptr l1 (0+14)) fun l _=>g7 l=g1 l)∧(Qd (ptr l1 (0+11)) fun l _=>g7 l=g1 l)∧Jb .int .or v57 v60 fun v61=>
Jb .int .andNot v55 v61 fun v62=>
Jb .int .neq v62 (.int .u8 0) fun v63=>
Qa v63 (
Jc K (.bool false) g7 n60) (
kLd g7 l1 (0+12) fun v65=>
Jb .int .eql v65 (.int .i64 0) fun v67=>
Qa v67 (
kLd g7 l1 (0+13) fun v69=>
Jb .int .eql v69 (.int .i64 0) fun v70=>
Qa v70 (
kLd g7 l1 (0+14) fun v73=>
Jb .int .eql v73 (.int .u8 0) fun v74=>
Jc K v74 g7 n60) (
Jc K (.bool false) g7 n60)) (
Jb .int .eql v65 (.int .i64 1) fun v77=>
Qa v77 (
JJ C K (puts (Jj [a0]) [(1,ptr l1 0),(2,.bool false),(4,(ptr l1 (0+10))),(5,v5),(6,v6),(7,.bool false),(8,(ptr l1 (0+11))),(9,v9),(10,v10),(11,v10),(3,v10),(13,(ptr l1 (0+10))),(14,v14),(15,v15),(16,.bool false),(17,(ptr l1 (0+10))),(18,v18),(19,v19),(20,v19),(21,.bool false),(22,(ptr l1 (0+10))),(23,v23),(24,v24),(25,.bool true),(26,(ptr l1 (0+11))),(27,v27),(28,v28),(29,v28),(30,v28),(12,v28),(32,(ptr l1 (0+0))),(33,v33),(34,v34),(35,.bool false),(36,undef),(37,undef),(38,undef),(39,undef),(40,undef),(41,undef),(42,undef),(43,undef),(44,undef),(45,undef),(46,undef),(47,undef),(48,undef),(49,undef),(50,undef),(51,undef),(52,.bool false),(31,.bool false),(54,(ptr l1 (0+14))),(55,v55),(56,(ptr l1 (0+11))),(57,v57),(58,(ptr l1 (0+10))),(59,v59),(60,v60),(61,v61),(62,v62),(63,v63),(53,v63),(64,(ptr l1 (0+12))),(65,v65),(67,v67),(66,v67),(77,v77),(76,v77)]) g7 n60) (
Jb .int .eql v65 (.int .i64 2) fun v78=>
JJ C K (puts (Jj [a0]) [(1,ptr l1 0),(2,.bool false),(4,(ptr l1 (0+10))),(5,v5),(6,v6),(7,.bool false),(8,(ptr l1 (0+11))),(9,v9),(10,v10),(11,v10),(3,v10),(13,(ptr l1 (0+10))),(14,v14),(15,v15),(16,.bool false),(17,(ptr l1 (0+10))),(18,v18),(19,v19),(20,v19),(21,.bool false),(22,(ptr l1 (0+10))),(23,v23),(24,v24),(25,.bool true),(26,(ptr l1 (0+11))),(27,v27),(28,v28),(29,v28),(30,v28),(12,v28),(32,(ptr l1 (0+0))),(33,v33),(34,v34),(35,.bool false),(36,undef),(37,undef),(38,undef),(39,undef),(40,undef),(41,undef),(42,undef),(43,undef),(44,undef),(45,undef),(46,undef),(47,undef),(48,undef),(49,undef),(50,undef),(51,undef),(52,.bool false),(31,.bool false),(54,(ptr l1 (0+14))),(55,v55),(56,(ptr l1 (0+11))),(57,v57),(58,(ptr l1 (0+10))),(59,v59),(60,v60),(61,v61),(62,v62),(63,v63),(53,v63),(64,(ptr l1 (0+12))),(65,v65),(67,v67),(66,v67),(77,v77),(76,v77),(78,v78),(76,v78)]) g7 n60)))))) (
kLd g1 l1 (0+0) fun v33=>
kUn .not v33 fun v34=>
Qa v34 (
kLd g1 l1 (0+1) fun v37=>
Qa v37 (
Jc K (.bool false) g1 n1) (
Qa v10 (
Jc K (.bool false) g1 n1) (
kLd g1 l1 (0+12) fun v43=>
Jb .int .neq v43 (.int .i64 0) fun v44=>
Qa v44 (
Jc K (.bool false) g1 n1) (
Zo g1 l1 (0+2) 8 fun c48=>
Xf [.int .u64 0,.int .u64 0,.int .u64 0,.int .u64 0,.int .u64 0,.int .u64 0,.int .u64 0,.int .u64 0] [] fun c49=>
Jb (.agg [.i,.i,.i,.i,.i,.i,.i,.i]) .neq (.agg c48.toArray) (.agg c49.toArray) fun v50=>
Qa v50 (
Jc K (.bool false) g1 n1) (
kLd g1 l1 (0+14) fun v55=>
kLd g1 l1 (0+11) fun v57=>
kLd g1 l1 (0+10) fun v59=>
C Zu [v59] g1 n1 fun v60 g8 n60=>
(Qd (ptr l1 (0+14)) fun l _=>g8 l=g1 l)∧(Qd (ptr l1 (0+11)) fun l _=>g8 l=g1 l)∧Jb .int .or v57 v60 fun v61=>
Jb .int .andNot v55 v61 fun v62=>
Jb .int .neq v62 (.int .u8 0) fun v63=>
Qa v63 (
Jc K (.bool false) g8 n60) (
kLd g8 l1 (0+12) fun v65=>
Jb .int .eql v65 (.int .i64 0) fun v67=>
Qa v67 (
kLd g8 l1 (0+13) fun v69=>
Jb .int .eql v69 (.int .i64 0) fun v70=>
Qa v70 (
kLd g8 l1 (0+14) fun v73=>
Jb .int .eql v73 (.int .u8 0) fun v74=>
Jc K v74 g8 n60) (
Jc K (.bool false) g8 n60)) (
Jb .int .eql v65 (.int .i64 1) fun v77=>
Qa v77 (
JJ C K (puts (Jj [a0]) [(1,ptr l1 0),(2,.bool false),(4,(ptr l1 (0+10))),(5,v5),(6,v6),(7,.bool false),(8,(ptr l1 (0+11))),(9,v9),(10,v10),(11,v10),(3,v10),(13,(ptr l1 (0+10))),(14,v14),(15,v15),(16,.bool false),(17,(ptr l1 (0+10))),(18,v18),(19,v19),(20,v19),(21,.bool false),(22,(ptr l1 (0+10))),(23,v23),(24,v24),(25,.bool false),(26,undef),(27,undef),(28,undef),(29,.bool false),(30,.bool false),(12,.bool false),(32,(ptr l1 (0+0))),(33,v33),(34,v34),(35,.bool true),(36,(ptr l1 (0+1))),(37,v37),(38,.bool false),(39,v10),(40,v10),(41,.bool false),(42,(ptr l1 (0+12))),(43,v43),(44,v44),(45,v44),(46,.bool false),(47,(ptr l1 (0+2))),(48,.agg c48.toArray),(49,.agg c49.toArray),(50,v50),(51,v50),(52,v50),(31,v50),(54,(ptr l1 (0+14))),(55,v55),(56,(ptr l1 (0+11))),(57,v57),(58,(ptr l1 (0+10))),(59,v59),(60,v60),(61,v61),(62,v62),(63,v63),(53,v63),(64,(ptr l1 (0+12))),(65,v65),(67,v67),(66,v67),(77,v77),(76,v77)]) g8 n60) (
Jb .int .eql v65 (.int .i64 2) fun v78=>
JJ C K (puts (Jj [a0]) [(1,ptr l1 0),(2,.bool false),(4,(ptr l1 (0+10))),(5,v5),(6,v6),(7,.bool false),(8,(ptr l1 (0+11))),(9,v9),(10,v10),(11,v10),(3,v10),(13,(ptr l1 (0+10))),(14,v14),(15,v15),(16,.bool false),(17,(ptr l1 (0+10))),(18,v18),(19,v19),(20,v19),(21,.bool false),(22,(ptr l1 (0+10))),(23,v23),(24,v24),(25,.bool false),(26,undef),(27,undef),(28,undef),(29,.bool false),(30,.bool false),(12,.bool false),(32,(ptr l1 (0+0))),(33,v33),(34,v34),(35,.bool true),(36,(ptr l1 (0+1))),(37,v37),(38,.bool false),(39,v10),(40,v10),(41,.bool false),(42,(ptr l1 (0+12))),(43,v43),(44,v44),(45,v44),(46,.bool false),(47,(ptr l1 (0+2))),(48,.agg c48.toArray),(49,.agg c49.toArray),(50,v50),(51,v50),(52,v50),(31,v50),(54,(ptr l1 (0+14))),(55,v55),(56,(ptr l1 (0+11))),(57,v57),(58,(ptr l1 (0+10))),(59,v59),(60,v60),(61,v61),(62,v62),(63,v63),(53,v63),(64,(ptr l1 (0+12))),(65,v65),(67,v67),(66,v67),(77,v77),(76,v77),(78,v78),(76,v78)]) g8 n60)))))))) (
kLd g1 l1 (0+14) fun v55=>
kLd g1 l1 (0+11) fun v57=>
kLd g1 l1 (0+10) fun v59=>
C Zu [v59] g1 n1 fun v60 g9 n60=>
(Qd (ptr l1 (0+14)) fun l _=>g9 l=g1 l)∧(Qd (ptr l1 (0+11)) fun l _=>g9 l=g1 l)∧Jb .int .or v57 v60 fun v61=>
Jb .int .andNot v55 v61 fun v62=>
Jb .int .neq v62 (.int .u8 0) fun v63=>
Qa v63 (
Jc K (.bool false) g9 n60) (
kLd g9 l1 (0+12) fun v65=>
Jb .int .eql v65 (.int .i64 0) fun v67=>
Qa v67 (
kLd g9 l1 (0+13) fun v69=>
Jb .int .eql v69 (.int .i64 0) fun v70=>
Qa v70 (
kLd g9 l1 (0+14) fun v73=>
Jb .int .eql v73 (.int .u8 0) fun v74=>
Jc K v74 g9 n60) (
Jc K (.bool false) g9 n60)) (
Jb .int .eql v65 (.int .i64 1) fun v77=>
Qa v77 (
JJ C K (puts (Jj [a0]) [(1,ptr l1 0),(2,.bool false),(4,(ptr l1 (0+10))),(5,v5),(6,v6),(7,.bool false),(8,(ptr l1 (0+11))),(9,v9),(10,v10),(11,v10),(3,v10),(13,(ptr l1 (0+10))),(14,v14),(15,v15),(16,.bool false),(17,(ptr l1 (0+10))),(18,v18),(19,v19),(20,v19),(21,.bool false),(22,(ptr l1 (0+10))),(23,v23),(24,v24),(25,.bool false),(26,undef),(27,undef),(28,undef),(29,.bool false),(30,.bool false),(12,.bool false),(32,(ptr l1 (0+0))),(33,v33),(34,v34),(35,.bool false),(36,undef),(37,undef),(38,undef),(39,undef),(40,undef),(41,undef),(42,undef),(43,undef),(44,undef),(45,undef),(46,undef),(47,undef),(48,undef),(49,undef),(50,undef),(51,undef),(52,.bool false),(31,.bool false),(54,(ptr l1 (0+14))),(55,v55),(56,(ptr l1 (0+11))),(57,v57),(58,(ptr l1 (0+10))),(59,v59),(60,v60),(61,v61),(62,v62),(63,v63),(53,v63),(64,(ptr l1 (0+12))),(65,v65),(67,v67),(66,v67),(77,v77),(76,v77)]) g9 n60) (
Jb .int .eql v65 (.int .i64 2) fun v78=>
JJ C K (puts (Jj [a0]) [(1,ptr l1 0),(2,.bool false),(4,(ptr l1 (0+10))),(5,v5),(6,v6),(7,.bool false),(8,(ptr l1 (0+11))),(9,v9),(10,v10),(11,v10),(3,v10),(13,(ptr l1 (0+10))),(14,v14),(15,v15),(16,.bool false),(17,(ptr l1 (0+10))),(18,v18),(19,v19),(20,v19),(21,.bool false),(22,(ptr l1 (0+10))),(23,v23),(24,v24),(25,.bool false),(26,undef),(27,undef),(28,undef),(29,.bool false),(30,.bool false),(12,.bool false),(32,(ptr l1 (0+0))),(33,v33),(34,v34),(35,.bool false),(36,undef),(37,undef),(38,undef),(39,undef),(40,undef),(41,undef),(42,undef),(43,undef),(44,undef),(45,undef),(46,undef),(47,undef),(48,undef),(49,undef),(50,undef),(51,undef),(52,.bool false),(31,.bool false),(54,(ptr l1 (0+14))),(55,v55),(56,(ptr l1 (0+11))),(57,v57),(58,(ptr l1 (0+10))),(59,v59),(60,v60),(61,v61),(62,v62),(63,v63),(53,v63),(64,(ptr l1 (0+12))),(65,v65),(67,v67),(66,v67),(77,v77),(76,v77),(78,v78),(76,v78)]) g9 n60))))))))
theorem Zef (C:CT) (a0:Value) (g:G) (n:Nat) (K:Cont):Xex C a0 g n K=Je Tryz.prog C QaZ [a0] g n K:=by kernel_rfl
def QeH (C:CT) (a0:Value) (g:G) (n:Nat) (K:Cont):Prop:=
Jb .int .geq a0 (.int .i64 0) fun v4=>
Qa v4 (
Jb .int .lss a0 (.int .i64 8) fun v7=>
Jc K v7 g n) (
Jc K (.bool false) g n)
theorem Zeu (C:CT) (a0:Value) (g:G) (n:Nat) (K:Cont):QeH C a0 g n K=Je Tryz.prog C ZaG [a0] g n K:=by kernel_rfl
def Zas (C:CT) (K:Cont) (t:Env) (g:G) (n:Nat):Prop:=
Qd (t 1) fun l41 o41=>
kLd g l41 (o41+2) fun v42=>
Qa v42 (
Jc K (.bool true) g n) (
Jb .int .and (t 3) (.int .i64 4) fun v45=>
Jb .int .neq v45 (.int .i64 0) fun v46=>
Qa v46 (
Jc K (.bool true) g n) (
Qd (t 1) fun l49 o49=>
Zo g l49 (o49+4) 8 fun c50=>
Xf [.int .u64 0,.int .u64 0,.int .u64 0,.int .u64 0,.int .u64 0,.int .u64 0,.int .u64 0,.int .u64 0] [] fun c51=>
Jb (.agg [.i,.i,.i,.i,.i,.i,.i,.i]) .eql (.agg c50.toArray) (.agg c51.toArray) fun v52=>
Jc K v52 g n))
def JeL (C:CT) (a0:Value) (g:G) (n:Nat) (K:Cont):Prop:=
Zn a0 fun c1=>
Zq c1 .exact g n fun l1 g1 n1=>
kLd g1 l1 (0+0) fun v5=>
Jb .int .lss v5 (.int .i64 1) fun v6=>
Qa v6 (
Jc K (.bool false) g1 n1) (
kLd g1 l1 (0+0) fun v9=>
Jb .int .gtr v9 (.int .i64 14) fun v10=>
Qa v10 (
Jc K (.bool false) g1 n1) (
kLd g1 l1 (0+1) fun v14=>
Jb .int .lss v14 (.int .i64 0) fun v15=>
Qa v15 (
Jc K (.bool false) g1 n1) (
kLd g1 l1 (0+1) fun v19=>
Jb .int .geq v19 (.int .i64 64) fun v20=>
Qa v20 (
Jc K (.bool false) g1 n1) (
kLd g1 l1 (0+0) fun v24=>
C Qdp [] g1 n1 fun v22 g2 n22=>
(Qd (ptr l1 (0+0)) fun l _=>g2 l=g1 l)∧ZdB v22 v24 15 1 none fun v25=>
kLd g2 l1 (0+2) fun v28=>
Qa v28 (
Jb .int .and v25 (.int .i64 1) fun v31=>
Jb .int .eql v31 (.int .i64 0) fun v32=>
Qa v32 (
Qa v32 (
Jc K (.bool false) g2 n22) (
Zas C K (puts (Jj [a0]) [(1,ptr l1 0),(2,.bool false),(4,(ptr l1 (0+0))),(5,v5),(6,v6),(7,.bool false),(8,(ptr l1 (0+0))),(9,v9),(10,v10),(11,v10),(12,.bool false),(13,(ptr l1 (0+1))),(14,v14),(15,v15),(16,v15),(17,.bool false),(18,(ptr l1 (0+1))),(19,v19),(20,v20),(21,v20),(23,(ptr l1 (0+0))),(24,v24),(22,v22),(25,v25),(3,v25),(27,(ptr l1 (0+2))),(28,v28),(29,.bool true),(30,v25),(31,v31),(32,v32),(33,v32),(26,v32)]) g2 n22)) (
kLd g2 l1 (0+3) fun v35=>
Qa v35 (
Jb .int .and v25 (.int .i64 2) fun v38=>
Jb .int .eql v38 (.int .i64 0) fun v39=>
Qa v39 (
Jc K (.bool false) g2 n22) (
Zas C K (puts (Jj [a0]) [(1,ptr l1 0),(2,.bool false),(4,(ptr l1 (0+0))),(5,v5),(6,v6),(7,.bool false),(8,(ptr l1 (0+0))),(9,v9),(10,v10),(11,v10),(12,.bool false),(13,(ptr l1 (0+1))),(14,v14),(15,v15),(16,v15),(17,.bool false),(18,(ptr l1 (0+1))),(19,v19),(20,v20),(21,v20),(23,(ptr l1 (0+0))),(24,v24),(22,v22),(25,v25),(3,v25),(27,(ptr l1 (0+2))),(28,v28),(29,.bool true),(30,v25),(31,v31),(32,v32),(33,v32),(26,v32),(34,(ptr l1 (0+3))),(35,v35),(36,.bool true),(37,v25),(38,v38),(39,v39),(40,v39),(26,v39)]) g2 n22)) (
Zas C K (puts (Jj [a0]) [(1,ptr l1 0),(2,.bool false),(4,(ptr l1 (0+0))),(5,v5),(6,v6),(7,.bool false),(8,(ptr l1 (0+0))),(9,v9),(10,v10),(11,v10),(12,.bool false),(13,(ptr l1 (0+1))),(14,v14),(15,v15),(16,v15),(17,.bool false),(18,(ptr l1 (0+1))),(19,v19),(20,v20),(21,v20),(23,(ptr l1 (0+0))),(24,v24),(22,v22),(25,v25),(3,v25),(27,(ptr l1 (0+2))),(28,v28),(29,.bool true),(30,v25),(31,v31),(32,v32),(33,v32),(26,v32),(34,(ptr l1 (0+3))),(35,v35),(36,.bool false),(37,undef),(38,undef),(39,undef),(40,.bool false),(26,.bool false)]) g2 n22))) (
kLd g2 l1 (0+3) fun v35=>
Qa v35 (
Jb .int .and v25 (.int .i64 2) fun v38=>
Jb .int .eql v38 (.int .i64 0) fun v39=>
Qa v39 (
Jc K (.bool false) g2 n22) (
Zas C K (puts (Jj [a0]) [(1,ptr l1 0),(2,.bool false),(4,(ptr l1 (0+0))),(5,v5),(6,v6),(7,.bool false),(8,(ptr l1 (0+0))),(9,v9),(10,v10),(11,v10),(12,.bool false),(13,(ptr l1 (0+1))),(14,v14),(15,v15),(16,v15),(17,.bool false),(18,(ptr l1 (0+1))),(19,v19),(20,v20),(21,v20),(23,(ptr l1 (0+0))),(24,v24),(22,v22),(25,v25),(3,v25),(27,(ptr l1 (0+2))),(28,v28),(29,.bool false),(30,undef),(31,undef),(32,undef),(33,.bool false),(26,.bool false),(34,(ptr l1 (0+3))),(35,v35),(36,.bool true),(37,v25),(38,v38),(39,v39),(40,v39),(26,v39)]) g2 n22)) (
Zas C K (puts (Jj [a0]) [(1,ptr l1 0),(2,.bool false),(4,(ptr l1 (0+0))),(5,v5),(6,v6),(7,.bool false),(8,(ptr l1 (0+0))),(9,v9),(10,v10),(11,v10),(12,.bool false),(13,(ptr l1 (0+1))),(14,v14),(15,v15),(16,v15),(17,.bool false),(18,(ptr l1 (0+1))),(19,v19),(20,v20),(21,v20),(23,(ptr l1 (0+0))),(24,v24),(22,v22),(25,v25),(3,v25),(27,(ptr l1 (0+2))),(28,v28),(29,.bool false),(30,undef),(31,undef),(32,undef),(33,.bool false),(26,.bool false),(34,(ptr l1 (0+3))),(35,v35),(36,.bool false),(37,undef),(38,undef),(39,undef),(40,.bool false),(26,.bool false)]) g2 n22))))))
theorem Qee (C:CT) (a0:Value) (g:G) (n:Nat) (K:Cont):JeL C a0 g n K=Je Tryz.prog C XaE [a0] g n K:=by kernel_rfl
def XeH (C:CT) (a0:Value) (g:G) (n:Nat) (K:Cont):Prop:=
Jb .int .geq a0 (.int .i64 1) fun v4=>
Qa v4 (
Jb .int .leq a0 (.int .i64 5) fun v7=>
Jc K v7 g n) (
Jc K (.bool false) g n)
theorem Zei (C:CT) (a0:Value) (g:G) (n:Nat) (K:Cont):XeH C a0 g n K=Je Tryz.prog C Xb8 [a0] g n K:=by kernel_rfl
def XeC (C:CT) (g:G) (n:Nat) (K:Cont):Prop:=
Zq [.nilFunc,.nilFunc,.nilFunc,.nilFunc,.nilFunc,.nilFunc] .exact g n fun l0 g1 n0=>
Xf [.nilFunc,.nilFunc,.nilFunc,.nilFunc,.nilFunc,.nilFunc] [(1,none,(.func (.func Zap) #[] #[])),(2,none,(.func (.func Jap) #[] #[])),(3,none,(.func (.func Xax) #[] #[])),(4,none,(.func (.func Jai) #[] #[])),(5,none,(.func (.func Qap) #[] #[]))] fun c1=>
Zn (.agg c1.toArray) fun cg2=>
cg2.length=6∧Xu g1 l0 0 cg2 fun g2=>
Zo g2 l0 0 6 fun r0=>
Jc K (.agg r0.toArray) g2 n0
theorem Xeu (C:CT) (g:G) (n:Nat) (K:Cont):XeC C g n K=Je Tryz.prog C Zb0 [] g n K:=by kernel_rfl
def Qd6 (C:CT) (a0:Value) (g:G) (n:Nat) (K:Cont):Prop:=
Jb .int .geq a0 (.int .i64 8) fun v4=>
Qa v4 (
Jb .int .leq a0 (.int .i64 14) fun v7=>
Jc K v7 g n) (
Jc K (.bool false) g n)
theorem XdO (C:CT) (a0:Value) (g:G) (n:Nat) (K:Cont):Qd6 C a0 g n K=Je Tryz.prog C ZbE [a0] g n K:=by kernel_rfl
def Zbr (C:CT) (a0 a1:Value) (g:G) (n:Nat) (K:Cont):Prop:=
Zq [.int .i64 0,.int .i64 0,.int .u64 0,.int .u64 0,.int .u64 0,.int .u64 0,.int .u64 0,.int .u64 0,.int .u64 0,.int .u64 0,.int .i64 0] .exact g n fun l4 g1 n4=>
Jg a0 fun v9=>
Qd v9 fun l10 o10=>
kLd g1 l10 (o10+0) fun v11=>
C Jau [v11,a1] g1 n4 fun v13 g2 n13=>
Xc v13 0 fun v14=>
Xc v13 1 fun v15=>
Zq [.int .i64 0,.int .i64 0,.int .u64 0,.int .u64 0,.int .u64 0,.int .u64 0,.int .u64 0,.int .u64 0,.int .u64 0,.int .u64 0,.int .i64 0] .exact g2 n13 fun l5 g3 n5=>
Zn v14 fun cg4=>
cg4.length=11∧Xu g3 l5 0 cg4 fun g4=>
Zo g4 l5 0 11 fun c16=>
Zn (.agg c16.toArray) fun cg5=>
cg5.length=11∧Xu g4 l4 0 cg5 fun g5=>
Zo g5 l4 0 11 fun r0=>
Jc K (.agg r0.toArray) g5 n5
theorem Zb4 (C:CT) (a0 a1:Value) (g:G) (n:Nat) (K:Cont):Zbr C a0 a1 g n K=Je Tryz.prog C Zs [a0,a1] g n K:=by kernel_rfl
def X9 (C:CT) (K:Cont) (t:Env) (g:G) (n:Nat):Prop:=
Jb .int .geq (t 5) (.int .i64 0) fun v18=>
Jc K v18 g n
def Qbr (C:CT) (a0 a1:Value) (g:G) (n:Nat) (K:Cont):Prop:=
C XO [a0,a1] g n fun v8 g1 n8=>
Jb .int .geq v8 (.int .i64 0) fun v10=>
Qa v10 (
C Qy [a0,a1] g1 n8 fun v13 g2 n13=>
Xf [.int .i64 0,.int .i64 0,.int .u64 0,.int .u64 0,.int .u64 0,.int .u64 0,.int .u64 0,.int .u64 0,.int .u64 0,.int .u64 0,.int .i64 0] [] fun c15=>
Xd v13 v8 11 fun v16=>
Qd v16 fun lg3 og3=>
Zn (.agg c15.toArray) fun cg3=>
cg3.length=11∧Xu g2 lg3 og3 cg3 fun g3=>
X9 C K (puts (Jj [a0,a1]) [(4,.bool false),(6,a0),(7,a1),(8,v8),(5,v8),(9,v8),(10,v10),(11,a0),(12,a1),(13,v13),(14,v8),(15,.agg c15.toArray),(16,v16)]) g3 n13) (
X9 C K (puts (Jj [a0,a1]) [(4,.bool false),(6,a0),(7,a1),(8,v8),(5,v8),(9,v8),(10,v10)]) g1 n8)
theorem Xb0 (C:CT) (a0 a1:Value) (g:G) (n:Nat) (K:Cont):Qbr C a0 a1 g n K=Je Tryz.prog C Jas [a0,a1] g n K:=by kernel_rfl
def X3 (C:CT) (K:Cont) (t:Env) (g:G) (n:Nat):Prop:=
Qd (t 7) fun l34 o34=>
Zo g l34 o34 12 fun c34=>
Xf (reps 1 [.int .i64 0,.int .i64 0,.bool false,.bool false,.int .u64 0,.int .u64 0,.int .u64 0,.int .u64 0,.int .u64 0,.int .u64 0,.int .u64 0,.int .u64 0]) [(0,some 12,.agg c34.toArray)] fun c35=>
Zq c35 .exact g n fun l35 g8 n35=>
Jc K (.slice (some ⟨l35,0,none⟩) 1 1) g8 n35
def QaC (C:CT) (K:Cont) (t:Env) (g:G) (n:Nat):Prop:=
Qd (t 4) fun l22 o22=>
kLd g l22 (o22+0) fun v23=>
Jb .int .eql v23 (.int .i64 3) fun v24=>
Qa v24 (
Qd (t 4) fun l30 o30=>
Zo g l30 (o30+2) 8 fun c31=>
Qd (t 7) fun l32 o32=>
kSt g l32 (o32+2) (.bool true) fun g6=>
(Qd (ptr l30 (o30+2)) fun l _=>g6 l=g l)∧Qd (t 7) fun l33 o33=>
Zn (.agg c31.toArray) fun cg7=>
cg7.length=8∧Xu g6 l33 (o33+4) cg7 fun g7=>
X3 C K (puts t [(22,(ptr l22 (o22+0))),(23,v23),(24,v24),(25,.bool true),(26,undef),(27,undef),(28,undef),(29,.bool true),(30,(ptr l30 (o30+2))),(31,.agg c31.toArray),(32,(ptr l32 (o32+2))),(33,(ptr l33 (o33+4)))]) g7 n) (
Qd (t 4) fun l26 o26=>
kLd g l26 (o26+0) fun v27=>
Jb .int .eql v27 (.int .i64 9) fun v28=>
Qa v28 (
Qd (t 4) fun l30 o30=>
Zo g l30 (o30+2) 8 fun c31=>
Qd (t 7) fun l32 o32=>
kSt g l32 (o32+2) (.bool true) fun g9=>
(Qd (ptr l30 (o30+2)) fun l _=>g9 l=g l)∧Qd (t 7) fun l33 o33=>
Zn (.agg c31.toArray) fun cg10=>
cg10.length=8∧Xu g9 l33 (o33+4) cg10 fun g10=>
X3 C K (puts t [(22,(ptr l22 (o22+0))),(23,v23),(24,v24),(25,.bool false),(26,(ptr l26 (o26+0))),(27,v27),(28,v28),(29,v28),(30,(ptr l30 (o30+2))),(31,.agg c31.toArray),(32,(ptr l32 (o32+2))),(33,(ptr l33 (o33+4)))]) g10 n) (
X3 C K (puts t [(22,(ptr l22 (o22+0))),(23,v23),(24,v24),(25,.bool false),(26,(ptr l26 (o26+0))),(27,v27),(28,v28),(29,v28)]) g n))
def QcF (C:CT) (a0 a1 a2:Value) (g:G) (n:Nat) (K:Cont):Prop:=
Zn a0 fun c3=>
Zq c3 .exact g n fun l3 g1 n3=>
Zn a1 fun c4=>
Zq c4 .exact g1 n3 fun l4 g2 n4=>
kLd g2 l3 (0+1) fun v9=>
Xf [.int .i64 0,.int .i64 0,.bool false,.bool false,.int .u64 0,.int .u64 0,.int .u64 0,.int .u64 0,.int .u64 0,.int .u64 0,.int .u64 0,.int .u64 0] [(1,none,v9)] fun c10=>
Zq [.int .i64 0,.int .i64 0,.bool false,.bool false,.int .u64 0,.int .u64 0,.int .u64 0,.int .u64 0,.int .u64 0,.int .u64 0,.int .u64 0,.int .u64 0] .exact g2 n4 fun l7 g3 n7=>
Zn (.agg c10.toArray) fun cg4=>
cg4.length=12∧Xu g3 l7 0 cg4 fun g4=>
kLd g4 l3 (0+0) fun v12=>
Jb .int .eql v12 (.int .i64 12) fun v14=>
Qa v14 (
kSt g4 l7 (0+0) (.int .i64 6) fun g5=>
QaC C K (puts (Jj [a0,a1,a2]) [(3,ptr l3 0),(4,ptr l4 0),(6,.slice none 0 0),(8,(ptr l3 (0+1))),(9,v9),(10,.agg c10.toArray),(7,ptr l7 0),(11,(ptr l3 (0+0))),(12,v12),(14,v14),(13,v14),(15,(ptr l7 (0+0)))]) g5 n7) (
Jb .int .eql v12 (.int .i64 13) fun v17=>
Qa v17 (
Jb .int .eql a2 (.int .i64 1) fun v19=>
kSt g4 l7 (0+0) (.int .i64 7) fun g11=>
kSt g11 l7 (0+3) v19 fun g12=>
QaC C K (puts (Jj [a0,a1,a2]) [(3,ptr l3 0),(4,ptr l4 0),(6,.slice none 0 0),(8,(ptr l3 (0+1))),(9,v9),(10,.agg c10.toArray),(7,ptr l7 0),(11,(ptr l3 (0+0))),(12,v12),(14,v14),(13,v14),(17,v17),(16,v17),(18,a2),(19,v19),(20,(ptr l7 (0+0))),(21,(ptr l7 (0+3)))]) g12 n7) (
Jc K (.slice none 0 0) g4 n7))
theorem Zc3 (C:CT) (a0 a1 a2:Value) (g:G) (n:Nat) (K:Cont):QcF C a0 a1 a2 g n K=Je Tryz.prog C QaA [a0,a1,a2] g n K:=by kernel_rfl
def Qad (C:CT) (K:Cont) (t:Env) (g:G) (n:Nat):Prop:=
Jb .int .lss (t 9) (.int .i64 0) fun v36=>
Qa v36 (
Jc K (.int .i64 13) g n) (
Qd (t 7) fun l41 o41=>
Zo g l41 o41 8 fun c41=>
C JV [t 0] g n fun v43 g5 n43=>
(Qd (t 7) fun l _=>g5 l=g l)∧Xf [.int .i64 0,.int .i64 0,.int .u64 0,.int .u64 0,.int .u64 0,.int .u64 0,.int .u64 0,.int .u64 0,.int .u64 0,.int .u64 0,.int .i64 0] [(0,none,t 2),(1,none,t 1),(2,some 8,.agg c41.toArray),(10,none,v43)] fun c44=>
Xd (t 10) (t 9) 11 fun v45=>
Qd v45 fun lg6 og6=>
Zn (.agg c44.toArray) fun cg6=>
cg6.length=11∧Xu g5 lg6 og6 cg6 fun g6=>
Jc K (.int .i64 0) g6 n43)
def QbH (C:CT) (a0 a1 a2 a3:Value) (g:G) (n:Nat) (K:Cont):Prop:=
Zn a3 fun c7=>
Zq c7 .exact g n fun l7 g1 n7=>
Jb .ptr .eql a0 (.pointer none) fun v12=>
Qa v12 (
Jc K (.int .i64 1) g1 n7) (
Jb .int .lss a1 (.int .i64 0) fun v15=>
Qa v15 (
Jc K (.int .i64 1) g1 n7) (
Jb .int .lss a2 (.int .i64 1) fun v19=>
Qa v19 (
Jc K (.int .i64 1) g1 n7) (
Jb .int .gtr a2 (.int .i64 9) fun v23=>
Qa v23 (
Jc K (.int .i64 1) g1 n7) (
C XO [a0,a1] g1 n7 fun v27 g2 n27=>
C Qy [a0,a1] g2 n27 fun v30 g3 n30=>
Jb .int .lss v27 (.int .i64 0) fun v32=>
Qa v32 (
C Zh [v30,(.func (.func XaH) #[] #[])] g3 n30 fun v34 g4 n34=>
Qad C K (puts (Jj [a0,a1,a2,a3]) [(7,ptr l7 0),(8,.int .i64 0),(11,a0),(12,v12),(13,.bool false),(14,a1),(15,v15),(16,v15),(17,.bool false),(18,a2),(19,v19),(20,v19),(21,.bool false),(22,a2),(23,v23),(24,v23),(25,a0),(26,a1),(27,v27),(28,a0),(29,a1),(30,v30),(9,v27),(10,v30),(31,v27),(32,v32),(33,v30),(34,v34),(9,v34)]) g4 n34) (
Qad C K (puts (Jj [a0,a1,a2,a3]) [(7,ptr l7 0),(8,.int .i64 0),(11,a0),(12,v12),(13,.bool false),(14,a1),(15,v15),(16,v15),(17,.bool false),(18,a2),(19,v19),(20,v19),(21,.bool false),(22,a2),(23,v23),(24,v23),(25,a0),(26,a1),(27,v27),(28,a0),(29,a1),(30,v30),(9,v27),(10,v30),(31,v27),(32,v32)]) g3 n30)))))
theorem Zcg (C:CT) (a0 a1 a2 a3:Value) (g:G) (n:Nat) (K:Cont):QbH C a0 a1 a2 a3 g n K=Je Tryz.prog C ZJ [a0,a1,a2,a3] g n K:=by kernel_rfl
def XcR (C:CT) (a0:Value) (g:G) (n:Nat) (K:Cont):Prop:=
Jb .int .eql a0 (.int .i64 6) fun v4=>
Qa v4 (
Jc K (.bool true) g n) (
Jb .int .eql a0 (.int .i64 7) fun v7=>
Jc K v7 g n)
theorem Zdf (C:CT) (a0:Value) (g:G) (n:Nat) (K:Cont):XcR C a0 g n K=Je Tryz.prog C Qa6 [a0] g n K:=by kernel_rfl
def XeL (C:CT) (a0 a1:Value) (g:G) (n:Nat) (K:Cont):Prop:=
C Zu [a1] g n fun v7 g1 n7=>
Jb .int .and a0 v7 fun v8=>
Jb .int .neq v8 (.int .u8 0) fun v9=>
Jc K v9 g1 n7
theorem Xev (C:CT) (a0 a1:Value) (g:G) (n:Nat) (K:Cont):XeL C a0 a1 g n K=Je Tryz.prog C Zbl [a0,a1] g n K:=by kernel_rfl
def JeF (C:CT) (a0:Value) (g:G) (n:Nat) (K:Cont):Prop:=
Jb .int .lss a0 (.int .i64 0) fun v4=>
Qa v4 (
Jc K (.int .u8 0) g n) (
Jb .int .geq a0 (.int .i64 8) fun v7=>
Qa v7 (
Jc K (.int .u8 0) g n) (
Jb .int .shl (.int .u8 1) a0 fun v10=>
Jc K v10 g n))
theorem Jeu (C:CT) (a0:Value) (g:G) (n:Nat) (K:Cont):JeF C a0 g n K=Je Tryz.prog C Zu [a0] g n K:=by kernel_rfl
def Zcd (C:CT) (a0 a1:Value) (g:G) (n:Nat) (K:Cont):Prop:=
Zn a1 fun c3=>
Zq c3 .exact g n fun l3 g1 n3=>
kLd g1 l3 (0+2) fun v5=>
Qa v5 (
Zo g1 l3 (0+4) 8 fun c9=>
Jg a0 fun v10=>
Qd v10 fun l11 o11=>
Zn (.agg c9.toArray) fun cg2=>
cg2.length=8∧Xu g1 l11 (o11+0+2) cg2 fun g2=>
Jg a0 fun v13=>
Qd v13 fun l14 o14=>
kSt g2 l14 (o14+0+1) (.bool true) fun g3=>
Jc K (.tuple #[]) g3 n3) (
Jc K (.tuple #[]) g1 n3)
theorem XcI (C:CT) (a0 a1:Value) (g:G) (n:Nat) (K:Cont):Zcd C a0 a1 g n K=Je Tryz.prog C Jao [a0,a1] g n K:=by kernel_rfl
def Qcb (C:CT) (a0:Value) (g:G) (n:Nat) (K:Cont):Prop:=
Jg a0 fun v5=>
Qd v5 fun l6 o6=>
kSt g l6 (o6+0+12) (.int .i64 0) fun g1=>
Jg a0 fun v8=>
Qd v8 fun l9 o9=>
kSt g1 l9 (o9+0+13) (.int .i64 0) fun g2=>
Jg a0 fun v11=>
Qd v11 fun l12 o12=>
kSt g2 l12 (o12+0+14) (.int .u8 0) fun g3=>
Jc K (.tuple #[]) g3 n
theorem XcH (C:CT) (a0:Value) (g:G) (n:Nat) (K:Cont):Qcb C a0 g n K=Je Tryz.prog C Zaa [a0] g n K:=by kernel_rfl
def Xcb (C:CT) (a0 a1:Value) (g:G) (n:Nat) (K:Cont):Prop:=
Jg a0 fun v5=>
Qd v5 fun l6 o6=>
kLd g l6 (o6+0+11) fun v8=>
C Zu [a1] g n fun v10 g1 n10=>
(Qd (ptr l6 (o6+0+11)) fun l _=>g1 l=g l)∧Jb .int .or v8 v10 fun v11=>
Jg a0 fun v12=>
Qd v12 fun l13 o13=>
kSt g1 l13 (o13+0+11) v11 fun g2=>
C ZK [a0,a1,.int .i64 8] g2 n10 fun v17 g3 n17=>
Jc K (.tuple #[]) g3 n17
theorem XcG (C:CT) (a0 a1:Value) (g:G) (n:Nat) (K:Cont):Xcb C a0 a1 g n K=Je Tryz.prog C Qaa [a0,a1] g n K:=by kernel_rfl
def QcG (C:CT) (a0 a1 a2:Value) (g:G) (n:Nat) (K:Cont):Prop:=
Jg a0 fun v9=>
Qd v9 fun l10 o10=>
kSt g l10 (o10+0+10) a1 fun g1=>
Jg a0 fun v12=>
Qd v12 fun l13 o13=>
kSt g1 l13 (o13+0+11) (.int .u8 0) fun g2=>
C ZK [a0,a1,a2] g2 n fun v18 g3 n18=>
Jc K (.tuple #[]) g3 n18
theorem Xc2 (C:CT) (a0 a1 a2:Value) (g:G) (n:Nat) (K:Cont):QcG C a0 a1 a2 g n K=Je Tryz.prog C X4 [a0,a1,a2] g n K:=by kernel_rfl
def JG (C:CT) (K:Cont) (t:Env) (g:G) (n:Nat):Prop:=
Jg (t 0) fun v59=>
Qd v59 fun l60 o60=>
kSt g l60 (o60+2) (t 9) fun g8=>
Jc K (.int .i64 0) g8 n
def ZQ (C:CT) (K:Cont) (J:Qj) (t:Env) (g:G) (n:Nat):Prop:=
Jg (t 0) fun v35=>
Qd v35 fun l36 o36=>
kLd g l36 (o36+2) fun v37=>
Jaw v37 fun v38=>
Jb .int .add v38 (.int .i64 1) fun v39=>
JbS v39 v39 [.int .i64 0,.int .u64 0,.int .u64 0,.int .u64 0,.int .u64 0,.int .u64 0,.int .u64 0,.int .u64 0,.int .u64 0] 72 g n fun v40 g5 n40=>
Jg (t 0) fun v43=>
Qd v43 fun l44 o44=>
kLd g5 l44 (o44+2) fun v45=>
XbJ v40 v45 9 g5 fun v46 g6=>
Jg (t 0) fun v49=>
Qd v49 fun l50 o50=>
kLd g6 l50 (o50+2) fun v51=>
Jaw v51 fun v52=>
Qd (t 5) fun l54 o54=>
Zo g6 l54 o54 8 fun c54=>
Xf [.int .i64 0,.int .u64 0,.int .u64 0,.int .u64 0,.int .u64 0,.int .u64 0,.int .u64 0,.int .u64 0,.int .u64 0] [(0,none,t 1),(1,some 8,.agg c54.toArray)] fun c55=>
Xd v40 v52 9 fun v56=>
Qd v56 fun lg7 og7=>
Zn (.agg c55.toArray) fun cg7=>
cg7.length=9∧Xu g6 lg7 og7 cg7 fun g7=>
J (puts t [(34,t 0),(35,v35),(36,(ptr l36 (o36+2))),(37,v37),(38,v38),(39,v39),(40,v40),(9,v40),(41,v40),(42,t 0),(43,v43),(44,(ptr l44 (o44+2))),(45,v45),(46,v46),(47,v40),(48,t 0),(49,v49),(50,(ptr l50 (o50+2))),(51,v51),(52,v52),(53,t 1),(54,.agg c54.toArray),(55,.agg c55.toArray),(56,v56)]) g7 n40
def XaM (C:CT) (a0 a1 a2:Value) (J:Qj) (g:G) (n:Nat) (K:Cont):Prop:=
Zn a2 fun c5=>
Zq c5 .exact g n fun l5 g1 n5=>
Jb .ptr .eql a0 (.pointer none) fun v11=>
Qa v11 (
Jc K (.int .i64 1) g1 n5) (
Jg a0 fun v14=>
Qd v14 fun l15 o15=>
kLd g1 l15 (o15+0) fun v16=>
C JaC [v16,a1] g1 n5 fun v18 g2 n18=>
Xc v18 0 fun v19=>
Xc v18 1 fun v20=>
Zq [.int .u64 0,.int .u64 0,.int .u64 0,.int .u64 0,.int .u64 0,.int .u64 0,.int .u64 0,.int .u64 0] .exact g2 n18 fun l7 g3 n7=>
Zn v19 fun cg4=>
cg4.length=8∧Xu g3 l7 0 cg4 fun g4=>
Jb .int .neq v20 (.int .i64 0) fun v22=>
Qa v22 (
Jc K v20 g4 n7) (
Jg a0 fun v25=>
Qd v25 fun l26 o26=>
kLd g4 l26 (o26+2) fun v27=>
Jaw v27 fun v28=>
Jg a0 fun v30=>
Qd v30 fun l31 o31=>
kLd g4 l31 (o31+1) fun v32=>
Jb .int .geq v28 v32 fun v33=>
Qa v33 (
Jc K (.int .i64 13) g4 n7) (
J (puts (Jj [a0,a1,a2]) [(5,ptr l5 0),(6,.int .i64 0),(10,a0),(11,v11),(13,a0),(14,v14),(15,(ptr l15 (o15+0))),(16,v16),(17,a1),(18,v18),(12,v18),(19,v19),(20,v20),(7,ptr l7 0),(8,v20),(21,v20),(22,v22),(24,a0),(25,v25),(26,(ptr l26 (o26+2))),(27,v27),(28,v28),(29,a0),(30,v30),(31,(ptr l31 (o31+1))),(32,v32),(33,v33)]) g4 n7)))
def Ja5 (C:CT) (a0 a1 a2:Value) (g:G) (n:Nat) (K:Cont):Prop:=XaM C a0 a1 a2 (ZQ C K (JG C K)) g n K
theorem Jbn (C:CT) (t:Env) (g:G) (n:Nat) (K:Cont):JG C K t g n=XQ Tryz.prog C [1,1,1,1,1,1,1] Qt K t g n:=by kernel_rfl
theorem ZbA (C:CT) (K:Cont):JG C K=XQ Tryz.prog C [1,1,1,1,1,1,1] Qt K:=funext fun t=>funext fun g=>funext fun n=>Jbn C t g n K
theorem Qbj (C:CT) (J:Qj) (t:Env) (g:G) (n:Nat) (K:Cont):ZQ C K J t g n=Xab Tryz.prog C [1,1,1,1] [1,1,1] J Qt K t g n:=by kernel_rfl
theorem Qby (C:CT) (K:Cont):ZQ C K (JG C K)=XQ Tryz.prog C [1,1,1,1] Qt K:=by
 rw [ZbA]
 exact (funext fun t=>funext fun g=>funext fun n=>Qbj C _ t g n K).trans (ZU Tryz.prog C [1,1,1,1] [1,1,1] Qt K)
theorem Zby (C:CT) (a0 a1 a2:Value) (J:Qj) (g:G) (n:Nat) (K:Cont):XaM C a0 a1 a2 J g n K=Xbl Tryz.prog C [1,1,1,1] J Qt [a0,a1,a2] g n K:=by kernel_rfl
theorem Xcw (C:CT) (a0 a1 a2:Value) (g:G) (n:Nat) (K:Cont):Ja5 C a0 a1 a2 g n K=Je Tryz.prog C Qt [a0,a1,a2] g n K:=by
 unfold Ja5
 rw [Zby,Qby]
 exact Xa0 Tryz.prog C [1,1,1,1] Qt [a0,a1,a2] g n K
def Qaq (C:CT) (K:Cont) (t:Env) (g:G) (n:Nat):Prop:=
Jg (t 0) fun v26=>
Qd v26 fun l27 o27=>
kLd g l27 (o27+16) fun v28=>
Qd (t 6) fun l30 o30=>
Zo g l30 o30 12 fun c30=>
Xf [.int .i64 0,.int .i64 0,.int .i64 0,.bool false,.bool false,.int .u64 0,.int .u64 0,.int .u64 0,.int .u64 0,.int .u64 0,.int .u64 0,.int .u64 0,.int .u64 0] [(0,none,t 1),(1,some 12,.agg c30.toArray)] fun c31=>
Xf (reps 1 [.int .i64 0,.int .i64 0,.int .i64 0,.bool false,.bool false,.int .u64 0,.int .u64 0,.int .u64 0,.int .u64 0,.int .u64 0,.int .u64 0,.int .u64 0,.int .u64 0]) [(0,some 13,.agg c31.toArray)] fun c32=>
Zq c32 .exact g n fun l32 g4 n32=>
(Qd (ptr l27 (o27+16)) fun l _=>g4 l=g l)∧Zt v28 (.slice (some ⟨l32,0,none⟩) 1 1) 13 96 g4 n32 fun v33 g5 n33=>
Jg (t 0) fun v34=>
Qd v34 fun l35 o35=>
kSt g5 l35 (o35+16) v33 fun g6=>
Jc K (.tuple #[]) g6 n33
def J9 (C:CT) (K:Cont) (t:Env) (g:G) (n:Nat):Prop:=
Qa (t 14) (
Jg (t 0) fun v19=>
Qd v19 fun l20 o20=>
Zo g l20 (o20+0+2) 8 fun c22=>
Qd (t 6) fun l23 o23=>
Zn (.agg c22.toArray) fun cg3=>
cg3.length=8∧Xu g l23 (o23+4) cg3 fun g3=>
Qaq C K (puts t [(18,t 0),(19,v19),(20,(ptr l20 (o20+0))),(21,(ptr l20 (o20+0+2))),(22,.agg c22.toArray),(23,(ptr l23 (o23+4)))]) g3 n) (
Qaq C K t g n)
def Qck (C:CT) (a0 a1 a2:Value) (g:G) (n:Nat) (K:Cont):Prop:=
Jg a0 fun v9=>
Qd v9 fun l10 o10=>
kLd g l10 (o10+15) fun v11=>
Xf [.int .i64 0,.int .i64 0,.bool false,.bool false,.int .u64 0,.int .u64 0,.int .u64 0,.int .u64 0,.int .u64 0,.int .u64 0,.int .u64 0,.int .u64 0] [(0,none,a2),(1,none,v11)] fun c12=>
Zq [.int .i64 0,.int .i64 0,.bool false,.bool false,.int .u64 0,.int .u64 0,.int .u64 0,.int .u64 0,.int .u64 0,.int .u64 0,.int .u64 0,.int .u64 0] .exact g n fun l6 g1 n6=>
Zn (.agg c12.toArray) fun cg2=>
cg2.length=12∧Xu g1 l6 0 cg2 fun g2=>
Jb .int .eql a2 (.int .i64 8) fun v15=>
Qa v15 (
J9 C K (puts (Jj [a0,a1,a2]) [(7,a2),(8,a0),(9,v9),(10,(ptr l10 (o10+15))),(11,v11),(12,.agg c12.toArray),(6,ptr l6 0),(13,a2),(15,v15),(14,v15)]) g2 n6) (
Jb .int .eql a2 (.int .i64 9) fun v16=>
Qa v16 (
J9 C K (puts (Jj [a0,a1,a2]) [(7,a2),(8,a0),(9,v9),(10,(ptr l10 (o10+15))),(11,v11),(12,.agg c12.toArray),(6,ptr l6 0),(13,a2),(15,v15),(14,v15),(16,v16),(14,v16)]) g2 n6) (
Jb .int .eql a2 (.int .i64 10) fun v17=>
J9 C K (puts (Jj [a0,a1,a2]) [(7,a2),(8,a0),(9,v9),(10,(ptr l10 (o10+15))),(11,v11),(12,.agg c12.toArray),(6,ptr l6 0),(13,a2),(15,v15),(14,v15),(16,v16),(14,v16),(17,v17),(14,v17)]) g2 n6))
theorem ZcJ (C:CT) (a0 a1 a2:Value) (g:G) (n:Nat) (K:Cont):Qck C a0 a1 a2 g n K=Je Tryz.prog C ZK [a0,a1,a2] g n K:=by kernel_rfl
def ZE (C:CT) (K:Cont) (t:Env) (g:G) (n:Nat):Prop:=
Jg (t 0) fun v46=>
Qd v46 fun l47 o47=>
kLd g l47 (o47+2) fun v48=>
Jb .int .add (t 5) (t 6) fun v51=>
QA v48 (some v51) none none 9 fun v52=>
QaJ v52 [.int .i64 0,.int .u64 0,.int .u64 0,.int .u64 0,.int .u64 0,.int .u64 0,.int .u64 0,.int .u64 0,.int .u64 0] g fun v_ g5=>
Jg (t 0) fun v55=>
Qd v55 fun l56 o56=>
kLd g5 l56 (o56+2) fun v57=>
Jb .int .add (t 5) (t 6) fun v60=>
QA v57 none (some v60) none 9 fun v61=>
Jg (t 0) fun v62=>
Qd v62 fun l63 o63=>
kSt g5 l63 (o63+2) v61 fun g6=>
Jc K (.int .i64 0) g6 n
def XL (C:CT) (K:Cont) (J:Qj) (t:Env) (g:G) (n:Nat):Prop:=
Jg (t 0) fun v32=>
Qd v32 fun l33 o33=>
kLd g l33 (o33+2) fun v34=>
QA v34 (some (t 5)) none none 9 fun v36=>
Jg (t 0) fun v38=>
Qd v38 fun l39 o39=>
kLd g l39 (o39+2) fun v40=>
Jb .int .add (t 5) (.int .i64 1) fun v42=>
QA v40 (some v42) none none 9 fun v43=>
XbJ v36 v43 9 g fun v44 g4=>
J (puts t [(31,t 0),(32,v32),(33,(ptr l33 (o33+2))),(34,v34),(35,t 5),(36,v36),(37,t 0),(38,v38),(39,(ptr l39 (o39+2))),(40,v40),(41,t 5),(42,v42),(43,v43),(44,v44),(6,v44)]) g4 n
def JaE (C:CT) (a0 a1:Value) (J:Qj) (g:G) (n:Nat) (K:Cont):Prop:=
isCell a1=true∧Zq [a1] .exact g n fun l3 g1 n3=>
Jb .ptr .eql a0 (.pointer none) fun v8=>
Qa v8 (
Jc K (.int .i64 1) g1 n3) (
Jg a0 fun v10=>
Qd v10 fun l11 o11=>
kLd g1 l11 (o11+2) fun v12=>
C Ju [v12,(.func (.func Zy) #[] #[ptr l3 0])] g1 n3 fun v14 g2 n14=>
Jb .int .lss v14 (.int .i64 0) fun v16=>
Qa v16 (
Jc K (.int .i64 14) g2 n14) (
Jg a0 fun v18=>
Qd v18 fun l19 o19=>
kLd g2 l19 (o19+0) fun v20=>
kLd g2 l3 0 fun v21=>
Jg a0 fun v23=>
Qd v23 fun l24 o24=>
kLd g2 l24 (o24+2) fun v25=>
Xd v25 v14 9 fun v27=>
Qd v27 fun l28 o28=>
Zo g2 l28 (o28+1) 8 fun c29=>
C Zau [v20,v21,.agg c29.toArray] g2 n14 fun v30 g3 n30=>
J (puts (Jj [a0,a1]) [(3,ptr l3 0),(4,.int .i64 0),(7,a0),(8,v8),(9,a0),(10,v10),(11,(ptr l11 (o11+2))),(12,v12),(13,(.func (.func Zy) #[] #[ptr l3 0])),(14,v14),(5,v14),(15,v14),(16,v16),(17,a0),(18,v18),(19,(ptr l19 (o19+0))),(20,v20),(21,v21),(22,a0),(23,v23),(24,(ptr l24 (o24+2))),(25,v25),(26,v14),(27,v27),(28,(ptr l28 (o28+1))),(29,.agg c29.toArray),(30,v30)]) g3 n30))
def QaX (C:CT) (a0 a1:Value) (g:G) (n:Nat) (K:Cont):Prop:=JaE C a0 a1 (XL C K (ZE C K)) g n K
theorem Xbg (C:CT) (t:Env) (g:G) (n:Nat) (K:Cont):ZE C K t g n=XQ Tryz.prog C [1,1,1,1,1,1] Qr K t g n:=by kernel_rfl
theorem Xbj (C:CT) (K:Cont):ZE C K=XQ Tryz.prog C [1,1,1,1,1,1] Qr K:=funext fun t=>funext fun g=>funext fun n=>Xbg C t g n K
theorem Zbc (C:CT) (J:Qj) (t:Env) (g:G) (n:Nat) (K:Cont):XL C K J t g n=Xab Tryz.prog C [1,1,1,1,1] [1] J Qr K t g n:=by kernel_rfl
theorem Jbi (C:CT) (K:Cont):XL C K (ZE C K)=XQ Tryz.prog C [1,1,1,1,1] Qr K:=by
 rw [Xbj]
 exact (funext fun t=>funext fun g=>funext fun n=>Zbc C _ t g n K).trans (ZU Tryz.prog C [1,1,1,1,1] [1] Qr K)
theorem Jbk (C:CT) (a0 a1:Value) (J:Qj) (g:G) (n:Nat) (K:Cont):JaE C a0 a1 J g n K=Xbl Tryz.prog C [1,1,1,1,1] J Qr [a0,a1] g n K:=by kernel_rfl
theorem Qcn (C:CT) (a0 a1:Value) (g:G) (n:Nat) (K:Cont):QaX C a0 a1 g n K=Je Tryz.prog C Qr [a0,a1] g n K:=by
 unfold QaX
 rw [Jbk,Jbi]
 exact Xa0 Tryz.prog C [1,1,1,1,1] Qr [a0,a1] g n K
def ZcQ (C:CT) (a0 a1:Value) (g:G) (n:Nat) (K:Cont):Prop:=
Jb .int .neq a0 (.int .i64 1) fun v7=>
Qa v7 (
Jb .int .neq a0 (.int .i64 2) fun v10=>
Qa v10 (
Jb .int .neq a0 (.int .i64 4) fun v14=>
Qa v14 (
Jb .int .neq a0 (.int .i64 8) fun v18=>
Qa v18 (
Jc K (.tuple #[.pointer none,.int .i64 1]) g n) (
Jb .int .lss a1 (.int .i64 1) fun v22=>
Qa v22 (
Jc K (.tuple #[.pointer none,.int .i64 1]) g n) (
Jb .int .gtr a1 (.int .i64 8) fun v26=>
Qa v26 (
Jc K (.tuple #[.pointer none,.int .i64 1]) g n) (
Jb .int .mul a0 a1 fun v32=>
JbS v32 v32 [.int .i64 0,.int .i64 0,.int .u64 0,.int .u64 0,.int .u64 0,.int .u64 0,.int .u64 0,.int .u64 0,.int .u64 0,.int .u64 0,.int .i64 0] 88 g n fun v33 g1 n33=>
Xf [.int .i64 0,.int .i64 0,.slice none 0 0,.int .i64 0] [(0,none,a0),(1,none,a1),(2,none,v33)] fun c34=>
Zn (.agg c34.toArray) fun c35=>
Zq c35 .exact g1 n33 fun l35 g2 n35=>
Jc K (.tuple #[ptr l35 0,.int .i64 0]) g2 n35)))) (
Jb .int .lss a1 (.int .i64 1) fun v22=>
Qa v22 (
Jc K (.tuple #[.pointer none,.int .i64 1]) g n) (
Jb .int .gtr a1 (.int .i64 8) fun v26=>
Qa v26 (
Jc K (.tuple #[.pointer none,.int .i64 1]) g n) (
Jb .int .mul a0 a1 fun v32=>
JbS v32 v32 [.int .i64 0,.int .i64 0,.int .u64 0,.int .u64 0,.int .u64 0,.int .u64 0,.int .u64 0,.int .u64 0,.int .u64 0,.int .u64 0,.int .i64 0] 88 g n fun v33 g3 n33=>
Xf [.int .i64 0,.int .i64 0,.slice none 0 0,.int .i64 0] [(0,none,a0),(1,none,a1),(2,none,v33)] fun c34=>
Zn (.agg c34.toArray) fun c35=>
Zq c35 .exact g3 n33 fun l35 g4 n35=>
Jc K (.tuple #[ptr l35 0,.int .i64 0]) g4 n35)))) (
Jb .int .lss a1 (.int .i64 1) fun v22=>
Qa v22 (
Jc K (.tuple #[.pointer none,.int .i64 1]) g n) (
Jb .int .gtr a1 (.int .i64 8) fun v26=>
Qa v26 (
Jc K (.tuple #[.pointer none,.int .i64 1]) g n) (
Jb .int .mul a0 a1 fun v32=>
JbS v32 v32 [.int .i64 0,.int .i64 0,.int .u64 0,.int .u64 0,.int .u64 0,.int .u64 0,.int .u64 0,.int .u64 0,.int .u64 0,.int .u64 0,.int .i64 0] 88 g n fun v33 g5 n33=>
Xf [.int .i64 0,.int .i64 0,.slice none 0 0,.int .i64 0] [(0,none,a0),(1,none,a1),(2,none,v33)] fun c34=>
Zn (.agg c34.toArray) fun c35=>
Zq c35 .exact g5 n33 fun l35 g6 n35=>
Jc K (.tuple #[ptr l35 0,.int .i64 0]) g6 n35)))) (
Jb .int .lss a1 (.int .i64 1) fun v22=>
Qa v22 (
Jc K (.tuple #[.pointer none,.int .i64 1]) g n) (
Jb .int .gtr a1 (.int .i64 8) fun v26=>
Qa v26 (
Jc K (.tuple #[.pointer none,.int .i64 1]) g n) (
Jb .int .mul a0 a1 fun v32=>
JbS v32 v32 [.int .i64 0,.int .i64 0,.int .u64 0,.int .u64 0,.int .u64 0,.int .u64 0,.int .u64 0,.int .u64 0,.int .u64 0,.int .u64 0,.int .i64 0] 88 g n fun v33 g7 n33=>
Xf [.int .i64 0,.int .i64 0,.slice none 0 0,.int .i64 0] [(0,none,a0),(1,none,a1),(2,none,v33)] fun c34=>
Zn (.agg c34.toArray) fun c35=>
Zq c35 .exact g7 n33 fun l35 g8 n35=>
Jc K (.tuple #[ptr l35 0,.int .i64 0]) g8 n35)))
theorem QdP (C:CT) (a0 a1:Value) (g:G) (n:Nat) (K:Cont):ZcQ C a0 a1 g n K=Je Tryz.prog C JbH [a0,a1] g n K:=by kernel_rfl
def Xbr (C:CT) (a0:Value) (g:G) (n:Nat) (K:Cont):Prop:=
Jb .int .geq a0 (.int .i64 0) fun v4=>
Qa v4 (
Jb .int .leq a0 (.int .i64 7) fun v7=>
Jc K v7 g n) (
Jc K (.bool false) g n)
theorem Zb5 (C:CT) (a0:Value) (g:G) (n:Nat) (K:Cont):Xbr C a0 g n K=Je Tryz.prog C ZP [a0] g n K:=by kernel_rfl
def XaI (C:CT) (a0:Value) (g:G) (n:Nat) (K:Cont):Prop:=
Jg a0 fun v4=>
Qd v4 fun l5 o5=>
C Za6 [(ptr l5 (o5+0))] g n fun v6 g1 n6=>
Jb .int .neq v6 (.int .u32 0) fun v7=>
Jc K v7 g1 n6
theorem Qbb (C:CT) (a0:Value) (g:G) (n:Nat) (K:Cont):XaI C a0 g n K=Je Tryz.prog C Zaw [a0] g n K:=by kernel_rfl
def JcZ (C:CT) (K:Cont) (t:Env) (g:G) (n:Nat):Prop:=
Qd (t 1) fun l37 o37=>
kLd g l37 (o37+4) fun v38=>
Jb .int .geq v38 (.int .i64 (-2147483648)) fun v39=>
Qa v39 (
Qd (t 1) fun l41 o41=>
kLd g l41 (o41+4) fun v42=>
Jb .int .leq v42 (.int .i64 2147483647) fun v43=>
Qa v43 (
Qd (t 1) fun l46 o46=>
kLd g l46 (o46+4) fun v47=>
Jb .int .geq v47 (.int .i64 0) fun v48=>
Qa v48 (
Jc K (.bool true) g n) (
Qd (t 1) fun l50 o50=>
kLd g l50 (o50+0) fun v51=>
C JbM [v51] g n fun v52 g5 n52=>
kUn .not v52 fun v53=>
Jc K v53 g5 n52)) (
Jc K (.bool false) g n)) (
Jc K (.bool false) g n)
def Xas (C:CT) (K:Cont) (t:Env) (g:G) (n:Nat):Prop:=
Qa (t 7) (
Jc K (.bool false) g n) (
C XG [t 3,(.string ⟨#[73]⟩)] g n fun v32 g4 n32=>
kUn .not v32 fun v33=>
Qa v33 (
Qd (t 1) fun l34 o34=>
kLd g4 l34 (o34+4) fun v35=>
Jb .int .eql v35 (.int .i64 0) fun v36=>
Jc K v36 g4 n32) (
JcZ C K (puts t [(31,t 3),(32,v32),(33,v33),(30,v33)]) g4 n32))
def XdL (C:CT) (a0:Value) (g:G) (n:Nat) (K:Cont):Prop:=
Zn a0 fun c1=>
Zq c1 .exact g n fun l1 g1 n1=>
kLd g1 l1 (0+0) fun v5=>
C Qm [v5] g1 n1 fun v6 g2 n6=>
kLd g2 l1 (0+0) fun v9=>
C Jcp [v9] g2 n6 fun v10 g3 n10=>
kUn .not v10 fun v11=>
Qa v11 (
Xas C K (puts (Jj [a0]) [(1,ptr l1 0),(2,.bool false),(4,(ptr l1 (0+0))),(5,v5),(6,v6),(3,v6),(8,(ptr l1 (0+0))),(9,v9),(10,v10),(11,v11),(7,v11)]) g3 n10) (
kLd g3 l1 (0+1) fun v13=>
C XG [v6,(.string ⟨#[65]⟩)] g3 n10 fun v15 g6 n15=>
(Qd (ptr l1 (0+1)) fun l _=>g6 l=g3 l)∧C Qah [v13,v15] g6 n15 fun v16 g7 n16=>
kUn .not v16 fun v17=>
Qa v17 (
Xas C K (puts (Jj [a0]) [(1,ptr l1 0),(2,.bool false),(4,(ptr l1 (0+0))),(5,v5),(6,v6),(3,v6),(8,(ptr l1 (0+0))),(9,v9),(10,v10),(11,v11),(7,v11),(12,(ptr l1 (0+1))),(13,v13),(14,v6),(15,v15),(16,v16),(17,v17),(7,v17)]) g7 n16) (
kLd g7 l1 (0+2) fun v19=>
C XG [v6,(.string ⟨#[66]⟩)] g7 n16 fun v21 g8 n21=>
(Qd (ptr l1 (0+2)) fun l _=>g8 l=g7 l)∧C Qah [v19,v21] g8 n21 fun v22 g9 n22=>
kUn .not v22 fun v23=>
Qa v23 (
Xas C K (puts (Jj [a0]) [(1,ptr l1 0),(2,.bool false),(4,(ptr l1 (0+0))),(5,v5),(6,v6),(3,v6),(8,(ptr l1 (0+0))),(9,v9),(10,v10),(11,v11),(7,v11),(12,(ptr l1 (0+1))),(13,v13),(14,v6),(15,v15),(16,v16),(17,v17),(7,v17),(18,(ptr l1 (0+2))),(19,v19),(20,v6),(21,v21),(22,v22),(23,v23),(7,v23)]) g9 n22) (
kLd g9 l1 (0+3) fun v25=>
C XG [v6,(.string ⟨#[67]⟩)] g9 n22 fun v27 g10 n27=>
(Qd (ptr l1 (0+3)) fun l _=>g10 l=g9 l)∧C Qah [v25,v27] g10 n27 fun v28 g11 n28=>
kUn .not v28 fun v29=>
Xas C K (puts (Jj [a0]) [(1,ptr l1 0),(2,.bool false),(4,(ptr l1 (0+0))),(5,v5),(6,v6),(3,v6),(8,(ptr l1 (0+0))),(9,v9),(10,v10),(11,v11),(7,v11),(12,(ptr l1 (0+1))),(13,v13),(14,v6),(15,v15),(16,v16),(17,v17),(7,v17),(18,(ptr l1 (0+2))),(19,v19),(20,v6),(21,v21),(22,v22),(23,v23),(7,v23),(24,(ptr l1 (0+3))),(25,v25),(26,v6),(27,v27),(28,v28),(29,v29),(7,v29)]) g11 n28)))
theorem Jc8 (C:CT) (a0:Value) (g:G) (n:Nat) (K:Cont):XdL C a0 g n K=Je Tryz.prog C Jbp [a0] g n K:=by kernel_rfl
def JcE (C:CT) (a0:Value) (g:G) (n:Nat) (K:Cont):Prop:=
Jg a0 fun v8=>
Qd v8 fun l9 o9=>
kLd g l9 (o9+1) fun v10=>
Jg a0 fun v14=>
Qd v14 fun l15 o15=>
kLd g l15 (o15+0) fun v16=>
Jg a0 fun v18=>
Qd v18 fun l19 o19=>
kLd g l19 (o19+2+2) fun v21=>
Jg v16 fun v22=>
Qd v22 fun l23 o23=>
Ji (ptr l23 (o23+1)) v21 8 1 fun v24=>
Qd v24 fun l25 o25=>
kLd g l25 o25 fun v25=>
Jg a0 fun v27=>
Qd v27 fun l28 o28=>
kLd g l28 (o28+2+4) fun v30=>
C Jah [v10] g n fun v11 g1 n11=>
(Qd (ptr l15 (o15+0)) fun l _=>g1 l=g l)∧(Qd (ptr l19 (o19+2+2)) fun l _=>g1 l=g l)∧(Qd v24 fun l _=>g1 l=g l)∧(Qd (ptr l28 (o28+2+4)) fun l _=>g1 l=g l)∧Zn v11 fun c12=>
Xby c12 1 none fun v12=>
C Qct [v25,v30] g1 n11 fun v31 g2 n31=>
C Zcy [v12,v31] g2 n31 fun v32 g3 n32=>
Xc v32 0 fun v33=>
Xc v32 1 fun v34=>
Xc v32 2 fun v35=>
Jb .int .neq v35 (.int .i64 0) fun v37=>
Qa v37 (
C Qak [a0] g3 n32 fun v39 g4 n39=>
Jc K (.tuple #[.int .i64 0,.int .i64 0,.bool false]) g4 n39) (
Jc K (.tuple #[v33,v34,.bool true]) g3 n32)
theorem Qc5 (C:CT) (a0:Value) (g:G) (n:Nat) (K:Cont):JcE C a0 g n K=Je Tryz.prog C Jag [a0] g n K:=by kernel_rfl
def ZaY (C:CT) (K:Cont) (I_l1:Qj) (t:Env) (g:G) (n:Nat):Prop:=
Jb .int .geq (t 8) (.int .i64 0) fun v14=>
Qa v14 (
Jg (t 0) fun v21=>
Qd v21 fun l22 o22=>
(C JA [t 0,t 8] g n fun v20 g2 n20=>
Ji (ptr l22 (o22+0)) v20 16 5 fun v23=>
Qd v23 fun l24 o24=>
Zo g2 l24 o24 5 fun c24=>
Zq [.int .i64 0,.int .i64 0,.int .i64 0,.int .u64 0,.bool false] .exact g2 n20 fun l9 g3 n9=>
(Qd v23 fun l _=>g3 l=g2 l)∧Zn (.agg c24.toArray) fun cg4=>
cg4.length=5∧Xu g3 l9 0 cg4 fun g4=>
kLd g4 l9 (0+0) fun v26=>
Jb .int .eql v26 (.int .i64 9) fun v27=>
Qa v27 (
kLd g4 l9 (0+1) fun v30=>
Jb .int .eql v30 (t 1) fun v32=>
Qa v32 (
kLd g4 l9 (0+2) fun v36=>
Jb .int .eql v36 (t 2) fun v38=>
Qa v38 (
kLd g4 l9 (0+3) fun v41=>
Jc K (.tuple #[v41,.bool true]) g4 n9) (
Jb .int .sub (t 8) (.int .i64 1) fun v16=>
I_l1 (puts t [(13,t 8),(14,v14),(17,t 0),(18,t 0),(19,t 8),(21,v21),(22,(ptr l22 (o22+0))),(20,v20),(23,v23),(24,.agg c24.toArray),(9,ptr l9 0),(25,(ptr l9 (0+0))),(26,v26),(27,v27),(28,.bool true),(29,(ptr l9 (0+1))),(30,v30),(31,t 1),(32,v32),(33,v32),(34,.bool true),(35,(ptr l9 (0+2))),(36,v36),(37,t 2),(38,v38),(39,v38),(15,t 8),(16,v16),(8,v16)]) g4 n9)) (
Jb .int .sub (t 8) (.int .i64 1) fun v16=>
I_l1 (puts t [(13,t 8),(14,v14),(17,t 0),(18,t 0),(19,t 8),(21,v21),(22,(ptr l22 (o22+0))),(20,v20),(23,v23),(24,.agg c24.toArray),(9,ptr l9 0),(25,(ptr l9 (0+0))),(26,v26),(27,v27),(28,.bool true),(29,(ptr l9 (0+1))),(30,v30),(31,t 1),(32,v32),(33,v32),(34,.bool false),(35,undef),(36,undef),(37,undef),(38,undef),(39,.bool false),(15,t 8),(16,v16),(8,v16)]) g4 n9)) (
Jb .int .sub (t 8) (.int .i64 1) fun v16=>
I_l1 (puts t [(13,t 8),(14,v14),(17,t 0),(18,t 0),(19,t 8),(21,v21),(22,(ptr l22 (o22+0))),(20,v20),(23,v23),(24,.agg c24.toArray),(9,ptr l9 0),(25,(ptr l9 (0+0))),(26,v26),(27,v27),(28,.bool false),(29,undef),(30,undef),(31,undef),(32,undef),(33,.bool false),(34,.bool false),(35,undef),(36,undef),(37,undef),(38,undef),(39,.bool false),(15,t 8),(16,v16),(8,v16)]) g4 n9))∧(Zq [.int .i64 0,.int .i64 0,.int .i64 0,.int .u64 0,.bool false] .exact g n fun l9 g5 n9=>
C JA [t 0,t 8] g5 n9 fun v20 g6 n20=>
Ji (ptr l22 (o22+0)) v20 16 5 fun v23=>
Qd v23 fun l24 o24=>
Zo g6 l24 o24 5 fun c24=>
Zn (.agg c24.toArray) fun cg7=>
cg7.length=5∧Xu g6 l9 0 cg7 fun g7=>
kLd g7 l9 (0+0) fun v26=>
Jb .int .eql v26 (.int .i64 9) fun v27=>
Qa v27 (
kLd g7 l9 (0+1) fun v30=>
Jb .int .eql v30 (t 1) fun v32=>
Qa v32 (
kLd g7 l9 (0+2) fun v36=>
Jb .int .eql v36 (t 2) fun v38=>
Qa v38 (
kLd g7 l9 (0+3) fun v41=>
Jc K (.tuple #[v41,.bool true]) g7 n20) (
Jb .int .sub (t 8) (.int .i64 1) fun v16=>
I_l1 (puts t [(13,t 8),(14,v14),(17,t 0),(18,t 0),(19,t 8),(21,v21),(22,(ptr l22 (o22+0))),(9,ptr l9 0),(20,v20),(23,v23),(24,.agg c24.toArray),(25,(ptr l9 (0+0))),(26,v26),(27,v27),(28,.bool true),(29,(ptr l9 (0+1))),(30,v30),(31,t 1),(32,v32),(33,v32),(34,.bool true),(35,(ptr l9 (0+2))),(36,v36),(37,t 2),(38,v38),(39,v38),(15,t 8),(16,v16),(8,v16)]) g7 n20)) (
Jb .int .sub (t 8) (.int .i64 1) fun v16=>
I_l1 (puts t [(13,t 8),(14,v14),(17,t 0),(18,t 0),(19,t 8),(21,v21),(22,(ptr l22 (o22+0))),(9,ptr l9 0),(20,v20),(23,v23),(24,.agg c24.toArray),(25,(ptr l9 (0+0))),(26,v26),(27,v27),(28,.bool true),(29,(ptr l9 (0+1))),(30,v30),(31,t 1),(32,v32),(33,v32),(34,.bool false),(35,undef),(36,undef),(37,undef),(38,undef),(39,.bool false),(15,t 8),(16,v16),(8,v16)]) g7 n20)) (
Jb .int .sub (t 8) (.int .i64 1) fun v16=>
I_l1 (puts t [(13,t 8),(14,v14),(17,t 0),(18,t 0),(19,t 8),(21,v21),(22,(ptr l22 (o22+0))),(9,ptr l9 0),(20,v20),(23,v23),(24,.agg c24.toArray),(25,(ptr l9 (0+0))),(26,v26),(27,v27),(28,.bool false),(29,undef),(30,undef),(31,undef),(32,undef),(33,.bool false),(34,.bool false),(35,undef),(36,undef),(37,undef),(38,undef),(39,.bool false),(15,t 8),(16,v16),(8,v16)]) g7 n20))) (
Jc K (.tuple #[.int .u64 0,.bool false]) g n)
def Jbr (C:CT) (a0 a1 a2:Value) (g:G) (n:Nat) (K:Cont):Prop:=
C JC [a0] g n fun v11 g1 n11=>
Jb .int .sub v11 (.int .i64 1) fun v12=>
lfp (ZaY C K) (puts (Jj [a0,a1,a2]) [(6,.int .u64 0),(7,.bool false),(10,a0),(11,v11),(12,v12),(8,v12)]) g1 n11
theorem Xb5 (C:CT) (a0 a1 a2:Value) (g:G) (n:Nat) (K:Cont):Jbr C a0 a1 a2 g n K=Je Tryz.prog C Qar [a0,a1,a2] g n K:=by kernel_rfl
def Zbu (C:CT) (a0 a1 a2 a3:Value) (g:G) (n:Nat) (K:Cont):Prop:=
C Xt [a0,a1] g n fun v16 g1 n16=>
Jb .ptr .eql v16 (.pointer none) fun v18=>
Qa v18 (
Jc K (.tuple #[.int .u64 0,.bool false]) g1 n16) (
C Qv [a0,a2] g1 n16 fun v22 g2 n22=>
kUn .not v22 fun v23=>
Qa v23 (
Jc K (.tuple #[.int .u64 0,.bool false]) g2 n22) (
Jg v16 fun v27=>
Qd v27 fun l28 o28=>
kLd g2 l28 (o28+0) fun v29=>
C Qau [v29,a2,a3] g2 n22 fun v32 g3 n32=>
Xc v32 0 fun v33=>
Xc v32 1 fun v34=>
Xc v32 2 fun v35=>
C Jaa [v16,v35] g3 n32 fun v38 g4 n38=>
Jc K (.tuple #[v33,v34]) g4 n38))
theorem Zb3 (C:CT) (a0 a1 a2 a3:Value) (g:G) (n:Nat) (K:Cont):Zbu C a0 a1 a2 a3 g n K=Je Tryz.prog C Z9 [a0,a1,a2,a3] g n K:=by kernel_rfl
def Xbx (C:CT) (a0 a1:Value) (g:G) (n:Nat) (K:Cont):Prop:=
Zn a1 fun c3=>
Zq c3 .exact g n fun l3 g1 n3=>
Jb .ptr .eql a0 (.pointer none) fun v7=>
Qa v7 (
Jc K (.int .i64 1) g1 n3) (
Zo g1 l3 0 5 fun c9=>
C XbC [.agg c9.toArray] g1 n3 fun v10 g2 n10=>
kUn .not v10 fun v11=>
Qa v11 (
Jc K (.int .i64 11) g2 n10) (
Jg a0 fun v14=>
Qd v14 fun l15 o15=>
kLd g2 l15 (o15+82) fun v16=>
Jg a0 fun v18=>
Qd v18 fun l19 o19=>
kLd g2 l19 (o19+80) fun v20=>
Jb .int .geq v16 v20 fun v21=>
Qa v21 (
Jc K (.int .i64 13) g2 n10) (
Jg a0 fun v25=>
Qd v25 fun l26 o26=>
kLd g2 l26 (o26+82) fun v27=>
Zo g2 l3 0 5 fun c29=>
Jg a0 fun v30=>
Qd v30 fun l31 o31=>
C JA [a0,v27] g2 n10 fun v28 g3 n28=>
(Qd (ptr l3 0) fun l _=>g3 l=g2 l)∧Ji (ptr l31 (o31+0)) v28 16 5 fun v32=>
Qd v32 fun lg4 og4=>
Zn (.agg c29.toArray) fun cg4=>
cg4.length=5∧Xu g3 lg4 og4 cg4 fun g4=>
Jg a0 fun v34=>
Qd v34 fun l35 o35=>
kLd g4 l35 (o35+82) fun v36=>
Jb .int .add v36 (.int .i64 1) fun v37=>
Jg a0 fun v38=>
Qd v38 fun l39 o39=>
kSt g4 l39 (o39+82) v37 fun g5=>
Jc K (.int .i64 0) g5 n28)))
theorem Qb2 (C:CT) (a0 a1:Value) (g:G) (n:Nat) (K:Cont):Xbx C a0 a1 g n K=Je Tryz.prog C Zar [a0,a1] g n K:=by kernel_rfl
def ZbL (C:CT) (a0:Value) (g:G) (n:Nat) (K:Cont):Prop:=
Jg a0 fun v4=>
Qd v4 fun l5 o5=>
kLd g l5 (o5+0) fun v6=>
Jg v6 fun v7=>
Qd v7 fun l8 o8=>
kLd g l8 (o8+11) fun v9=>
C JC [v9] g n fun v10 g1 n10=>
Jb .int .eql v10 (.int .i64 0) fun v11=>
Qa v11 (
Jg a0 fun v14=>
Qd v14 fun l15 o15=>
kLd g1 l15 (o15+0) fun v16=>
Jg v16 fun v17=>
Qd v17 fun l18 o18=>
kLd g1 l18 (o18+12) fun v19=>
Jb .int .eql v19 (.int .i64 0) fun v20=>
Jc K v20 g1 n10) (
Jc K (.bool false) g1 n10)
theorem Xcd (C:CT) (a0:Value) (g:G) (n:Nat) (K:Cont):ZbL C a0 g n K=Je Tryz.prog C Zad [a0] g n K:=by kernel_rfl
def Zbf (C:CT) (a0 a1 a2:Value) (g:G) (n:Nat) (K:Cont):Prop:=
C Xt [a0,a1] g n fun v10 g1 n10=>
Jb .ptr .eql v10 (.pointer none) fun v12=>
Qa v12 (
Jc K (.bool false) g1 n10) (
C Qv [a0,a2] g1 n10 fun v16 g2 n16=>
kUn .not v16 fun v17=>
Qa v17 (
Jc K (.bool false) g2 n16) (
Jg v10 fun v21=>
Qd v21 fun l22 o22=>
kLd g2 l22 (o22+0) fun v23=>
C JY [v23,a2] g2 n16 fun v25 g3 n25=>
C Jaa [v10,v25] g3 n25 fun v26 g4 n26=>
Jg v10 fun v28=>
Qd v28 fun l29 o29=>
kLd g4 l29 (o29+0) fun v30=>
C JP [v30,a2] g4 n26 fun v32 g5 n32=>
Jc K v32 g5 n32))
theorem ZbR (C:CT) (a0 a1 a2:Value) (g:G) (n:Nat) (K:Cont):Zbf C a0 a1 a2 g n K=Je Tryz.prog C Qan [a0,a1,a2] g n K:=by kernel_rfl
def Jgs (C:CT) (a0 a1 a2:Value) (g:G) (n:Nat) (K:Cont):Prop:=
C QbF [] g n fun v11 g1 n11=>
XbA .i64 v11 a0 (.agg #[.nilFunc]) true g1 fun v13=>
Xc v13 0 fun v14=>
Xc v13 1 fun v15=>
Zq [.nilFunc] .exact g1 n11 fun l8 g2 n8=>
Zn v14 fun cg3=>
cg3.length=1∧Xu g2 l8 0 cg3 fun g3=>
kUn .not v15 fun v17=>
Qa v17 (
Jc K (.tuple #[.int .u64 0,.bool false]) g3 n8) (
kLd g3 l8 (0+0) fun v19=>
Qbh C v19 [a1,a2] g3 n8 fun v22 g4 n22=>
Jc K (.tuple #[v22,.bool true]) g4 n22)
theorem Jfs (C:CT) (a0 a1 a2:Value) (g:G) (n:Nat) (K:Cont):Jgs C a0 a1 a2 g n K=Je Tryz.prog C Qda [a0,a1,a2] g n K:=by kernel_rfl
def ZeP (C:CT) (a0 a1 a2:Value) (g:G) (n:Nat) (K:Cont):Prop:=
Jb .int .eql a0 (.int .i64 17) fun v10=>
Qa v10 (
Jc K (.tuple #[.bool true,.bool true]) g n) (
Jb .int .eql a0 (.int .i64 18) fun v12=>
Qa v12 (
Jb .int .eql a1 a2 fun v15=>
Jc K (.tuple #[v15,.bool true]) g n) (
Jb .int .eql a0 (.int .i64 19) fun v17=>
Qa v17 (
Jb .int .neq a1 a2 fun v20=>
Jc K (.tuple #[v20,.bool true]) g n) (
Jb .int .eql a0 (.int .i64 20) fun v22=>
Qa v22 (
Jb .int .lss a1 a2 fun v25=>
Jc K (.tuple #[v25,.bool true]) g n) (
Jc K (.tuple #[.bool false,.bool false]) g n))))
theorem Xei (C:CT) (a0 a1 a2:Value) (g:G) (n:Nat) (K:Cont):ZeP C a0 a1 a2 g n K=Je Tryz.prog C Qb5 [a0,a1,a2] g n K:=by kernel_rfl
def XeG (C:CT) (a0 a1:Value) (g:G) (n:Nat) (K:Cont):Prop:=
Jb .int .geq a0 (.int .i64 0) fun v6=>
Qa v6 (
Jb .int .lss a0 (.int .i64 64) fun v9=>
Qa v9 (
Jb .int .geq a1 (.int .i64 0) fun v13=>
Qa v13 (
Jb .int .lss a1 (.int .i64 8) fun v17=>
Jc K v17 g n) (
Jc K (.bool false) g n)) (
Jc K (.bool false) g n)) (
Jc K (.bool false) g n)
theorem Jet (C:CT) (a0 a1:Value) (g:G) (n:Nat) (K:Cont):XeG C a0 a1 g n K=Je Tryz.prog C JaW [a0,a1] g n K:=by kernel_rfl
def Xbu (C:CT) (a0 a1:Value) (g:G) (n:Nat) (K:Cont):Prop:=
Jb .ptr .eql a0 (.pointer none) fun v7=>
Qa v7 (
Jc K (.bool false) g n) (
C Zs [a0,a1] g n fun v10 g1 n10=>
Zq [.int .i64 0,.int .i64 0,.int .u64 0,.int .u64 0,.int .u64 0,.int .u64 0,.int .u64 0,.int .u64 0,.int .u64 0,.int .u64 0,.int .i64 0] .exact g1 n10 fun l5 g2 n5=>
Zn v10 fun cg3=>
cg3.length=11∧Xu g2 l5 0 cg3 fun g3=>
kLd g3 l5 (0+0) fun v12=>
Jb .int .eql v12 (.int .i64 2) fun v13=>
Qa v13 (
Jc K (.bool true) g3 n5) (
kLd g3 l5 (0+0) fun v16=>
Jb .int .eql v16 (.int .i64 3) fun v17=>
Jc K v17 g3 n5))
theorem Jb9 (C:CT) (a0 a1:Value) (g:G) (n:Nat) (K:Cont):Xbu C a0 a1 g n K=Je Tryz.prog C JP [a0,a1] g n K:=by kernel_rfl
def Qbf (C:CT) (a0 a1:Value) (g:G) (n:Nat) (K:Cont):Prop:=
Jb .ptr .eql a0 (.pointer none) fun v7=>
Qa v7 (
Jc K (.slice none 0 0) g n) (
C JaW [a1,.int .i64 0] g n fun v10 g1 n10=>
kUn .not v10 fun v11=>
Qa v11 (
Jc K (.slice none 0 0) g1 n10) (
C JP [a0,a1] g1 n10 fun v16 g2 n16=>
Qa v16 (
Jc K (.slice none 0 0) g2 n16) (
C Zs [a0,a1] g2 n16 fun v20 g3 n20=>
Zq [.int .i64 0,.int .i64 0,.int .u64 0,.int .u64 0,.int .u64 0,.int .u64 0,.int .u64 0,.int .u64 0,.int .u64 0,.int .u64 0,.int .i64 0] .exact g3 n20 fun l5 g4 n5=>
Zn v20 fun cg5=>
cg5.length=11∧Xu g4 l5 0 cg5 fun g5=>
kLd g5 l5 (0+0) fun v22=>
Jb .int .eql v22 (.int .i64 1) fun v23=>
Qa v23 (
Zo g5 l5 (0+2) 8 fun c27=>
C JU [a0,a1,.int .i64 6,.int .i64 2,.agg c27.toArray] g5 n5 fun v28 g6 n28=>
Jc K v28 g6 n28) (
Xf [.int .u64 0,.int .u64 0,.int .u64 0,.int .u64 0,.int .u64 0,.int .u64 0,.int .u64 0,.int .u64 0] [] fun c31=>
C JU [a0,a1,.int .i64 5,.int .i64 2,.agg c31.toArray] g5 n5 fun v32 g7 n32=>
Jc K v32 g7 n32))))
theorem XbT (C:CT) (a0 a1:Value) (g:G) (n:Nat) (K:Cont):Qbf C a0 a1 g n K=Je Tryz.prog C JY [a0,a1] g n K:=by kernel_rfl
def ZbJ (C:CT) (a0 a1:Value) (g:G) (n:Nat) (K:Cont):Prop:=
Zq [.int .u64 0,.int .u64 0,.int .u64 0,.int .u64 0,.int .u64 0,.int .u64 0,.int .u64 0,.int .u64 0] .exact g n fun l4 g1 n4=>
C Q0 [a0,a1] g1 n4 fun v9 g2 n9=>
Jb .int .neq v9 (.int .i64 0) fun v11=>
Qa v11 (
Xf [.int .u64 0,.int .u64 0,.int .u64 0,.int .u64 0,.int .u64 0,.int .u64 0,.int .u64 0,.int .u64 0] [] fun c12=>
Zn (.agg c12.toArray) fun cg3=>
cg3.length=8∧Xu g2 l4 0 cg3 fun g3=>
Zo g3 l4 0 8 fun r0=>
Jc K (.tuple #[.agg r0.toArray,v9]) g3 n9) (
Jg a0 fun v15=>
Qd v15 fun l16 o16=>
C ZB [(ptr l16 (o16+2)),.int .i64 1] g2 n9 fun v17 g4 n17=>
Jg a0 fun v19=>
Qd v19 fun l20 o20=>
kLd g4 l20 (o20+0) fun v21=>
Xd v21 a1 8 fun v23=>
Qd v23 fun l24 o24=>
Zo g4 l24 o24 8 fun c24=>
Zn (.agg c24.toArray) fun cg5=>
cg5.length=8∧Xu g4 l4 0 cg5 fun g5=>
Zo g5 l4 0 8 fun r0=>
Jc K (.tuple #[.agg r0.toArray,.int .i64 0]) g5 n17)
theorem Zck (C:CT) (a0 a1:Value) (g:G) (n:Nat) (K:Cont):ZbJ C a0 a1 g n K=Je Tryz.prog C JaC [a0,a1] g n K:=by kernel_rfl
def Xca (C:CT) (a0 a1 a2:Value) (g:G) (n:Nat) (K:Cont):Prop:=
Zn a2 fun c5=>
Zq c5 .exact g n fun l5 g1 n5=>
Jg a0 fun v8=>
Qd v8 fun l9 o9=>
kLd g1 l9 (o9+0+10) fun v11=>
Jb .int .geq v11 (.int .i64 0) fun v17=>
Qa v17 (
Jb .int .neq v11 a1 fun v21=>
Qa v21 (
C Zu [v11] g1 n5 fun v26 g2 n26=>
C ZT [a0,.int .i64 1,a1,v26,.int .i64 13] g2 n26 fun v27 g3 n27=>
Jc K (.tuple #[]) g3 n27) (
Jg a0 fun v30=>
Qd v30 fun l31 o31=>
kLd g1 l31 (o31+0+11) fun v33=>
Jb .int .eql v33 (.int .u8 0) fun v34=>
Qa v34 (
C X4 [a0,a1,.int .i64 9] g1 n5 fun v37 g4 n37=>
Jc K (.tuple #[]) g4 n37) (
C Qaa [a0,a1] g1 n5 fun v14 g5 n14=>
Jc K (.tuple #[]) g5 n14))) (
Jg a0 fun v30=>
Qd v30 fun l31 o31=>
kLd g1 l31 (o31+0+11) fun v33=>
Jb .int .eql v33 (.int .u8 0) fun v34=>
Qa v34 (
C X4 [a0,a1,.int .i64 9] g1 n5 fun v37 g6 n37=>
Jc K (.tuple #[]) g6 n37) (
C Qaa [a0,a1] g1 n5 fun v14 g7 n14=>
Jc K (.tuple #[]) g7 n14))
theorem ZcK (C:CT) (a0 a1 a2:Value) (g:G) (n:Nat) (K:Cont):Xca C a0 a1 a2 g n K=Je Tryz.prog C Zap [a0,a1,a2] g n K:=by kernel_rfl
def Zco (C:CT) (a0 a1 a2:Value) (g:G) (n:Nat) (K:Cont):Prop:=
Zn a2 fun c5=>
Zq c5 .exact g n fun l5 g1 n5=>
C Q6 [a0] g1 n5 fun v8 g2 n8=>
C Zu [a1] g2 n8 fun v10 g3 n10=>
Jb .int .andNot v8 v10 fun v11=>
Jb .int .eql v11 (.int .u8 0) fun v13=>
Qa v13 (
C X4 [a0,a1,.int .i64 10] g3 n10 fun v16 g4 n16=>
Jc K (.tuple #[]) g4 n16) (
C ZT [a0,.int .i64 2,a1,v11,.int .i64 12] g3 n10 fun v20 g5 n20=>
Jc K (.tuple #[]) g5 n20)
theorem JcH (C:CT) (a0 a1 a2:Value) (g:G) (n:Nat) (K:Cont):Zco C a0 a1 a2 g n K=Je Tryz.prog C Jap [a0,a1,a2] g n K:=by kernel_rfl
def ZaA (C:CT) (K:Cont) (t:Env) (g:G) (n:Nat):Prop:=
C ZK [t 0,t 1,.int .i64 11] g n fun v33 g4 n33=>
Jc K (.tuple #[]) g4 n33
def JcD (C:CT) (a0 a1 a2:Value) (g:G) (n:Nat) (K:Cont):Prop:=
Zn a2 fun c5=>
Zq c5 .exact g n fun l5 g1 n5=>
Jg a0 fun v7=>
Qd v7 fun l8 o8=>
kLd g1 l8 (o8+0+10) fun v10=>
Jb .int .eql v10 a1 fun v12=>
Qa v12 (
Jg a0 fun v14=>
Qd v14 fun l15 o15=>
kSt g1 l15 (o15+0+10) (.int .i64 (-1)) fun g2=>
Zo g2 l5 0 12 fun c18=>
C Jao [a0,.agg c18.toArray] g2 n5 fun v19 g3 n19=>
ZaA C K (puts (Jj [a0,a1,a2]) [(5,ptr l5 0),(6,a0),(7,v7),(8,(ptr l8 (o8+0))),(9,(ptr l8 (o8+0+10))),(10,v10),(11,a1),(12,v12),(13,a0),(14,v14),(15,(ptr l15 (o15+0))),(16,(ptr l15 (o15+0+10))),(17,a0),(18,.agg c18.toArray),(19,v19)]) g3 n19) (
Jg a0 fun v21=>
Qd v21 fun l22 o22=>
kLd g1 l22 (o22+0+11) fun v24=>
C Zu [a1] g1 n5 fun v26 g5 n26=>
(Qd (ptr l22 (o22+0+11)) fun l _=>g5 l=g1 l)∧Jb .int .andNot v24 v26 fun v27=>
Jg a0 fun v28=>
Qd v28 fun l29 o29=>
kSt g5 l29 (o29+0+11) v27 fun g6=>
ZaA C K (puts (Jj [a0,a1,a2]) [(5,ptr l5 0),(6,a0),(7,v7),(8,(ptr l8 (o8+0))),(9,(ptr l8 (o8+0+10))),(10,v10),(11,a1),(12,v12),(20,a0),(21,v21),(22,(ptr l22 (o22+0))),(23,(ptr l22 (o22+0+11))),(24,v24),(25,a1),(26,v26),(27,v27),(28,v28),(29,(ptr l29 (o29+0))),(30,(ptr l29 (o29+0+11)))]) g6 n26)
theorem JcY (C:CT) (a0 a1 a2:Value) (g:G) (n:Nat) (K:Cont):JcD C a0 a1 a2 g n K=Je Tryz.prog C Xax [a0,a1,a2] g n K:=by kernel_rfl
def ZbY (C:CT) (a0 a1 a2:Value) (g:G) (n:Nat) (K:Cont):Prop:=
Zn a2 fun c5=>
Zq c5 .exact g n fun l5 g1 n5=>
Jg a0 fun v9=>
Qd v9 fun l10 o10=>
kLd g1 l10 (o10+0+10) fun v12=>
C Zu [v12] g1 n5 fun v13 g2 n13=>
C ZT [a0,.int .i64 4,a1,v13,.int .i64 13] g2 n13 fun v14 g3 n14=>
Jc K (.tuple #[]) g3 n14
theorem Xcy (C:CT) (a0 a1 a2:Value) (g:G) (n:Nat) (K:Cont):ZbY C a0 a1 a2 g n K=Je Tryz.prog C Jai [a0,a1,a2] g n K:=by kernel_rfl
def Zcb (C:CT) (a0 a1 a2:Value) (g:G) (n:Nat) (K:Cont):Prop:=
Zn a2 fun c5=>
Zq c5 .exact g n fun l5 g1 n5=>
C Q6 [a0] g1 n5 fun v9 g2 n9=>
C ZT [a0,.int .i64 5,a1,v9,.int .i64 12] g2 n9 fun v10 g3 n10=>
Jc K (.tuple #[]) g3 n10
theorem JcG (C:CT) (a0 a1 a2:Value) (g:G) (n:Nat) (K:Cont):Zcb C a0 a1 a2 g n K=Je Tryz.prog C Qap [a0,a1,a2] g n K:=by kernel_rfl
def Zbw (C:CT) (a0 a1:Value) (g:G) (n:Nat) (K:Cont):Prop:=
Zq [.int .i64 0,.int .i64 0,.int .u64 0,.int .u64 0,.int .u64 0,.int .u64 0,.int .u64 0,.int .u64 0,.int .u64 0,.int .u64 0,.int .i64 0] .exact g n fun l4 g1 n4=>
C XO [a0,a1] g1 n4 fun v9 g2 n9=>
Jb .int .lss v9 (.int .i64 0) fun v11=>
Qa v11 (
Xf [.int .i64 0,.int .i64 0,.int .u64 0,.int .u64 0,.int .u64 0,.int .u64 0,.int .u64 0,.int .u64 0,.int .u64 0,.int .u64 0,.int .i64 0] [] fun c12=>
Zn (.agg c12.toArray) fun cg3=>
cg3.length=11∧Xu g2 l4 0 cg3 fun g3=>
Zo g3 l4 0 11 fun r0=>
Jc K (.tuple #[.agg r0.toArray,.bool false]) g3 n9) (
C Qy [a0,a1] g2 n9 fun v15 g4 n15=>
Xd v15 v9 11 fun v17=>
Qd v17 fun l18 o18=>
Zo g4 l18 o18 11 fun c18=>
Zn (.agg c18.toArray) fun cg5=>
cg5.length=11∧Xu g4 l4 0 cg5 fun g5=>
Zo g5 l4 0 11 fun r0=>
Jc K (.tuple #[.agg r0.toArray,.bool true]) g5 n15)
theorem Xb2 (C:CT) (a0 a1:Value) (g:G) (n:Nat) (K:Cont):Zbw C a0 a1 g n K=Je Tryz.prog C Jau [a0,a1] g n K:=by kernel_rfl
def ZbV (C:CT) (a0 a1:Value) (g:G) (n:Nat) (K:Cont):Prop:=
isCell a1=true∧Zq [a1] .exact g n fun l3 g1 n3=>
Jb .ptr .eql a0 (.pointer none) fun v6=>
Qa v6 (
Jc K (.int .i64 (-1)) g1 n3) (
kLd g1 l3 0 fun v8=>
Jb .int .lss v8 (.int .i64 0) fun v9=>
Qa v9 (
Jc K (.int .i64 (-1)) g1 n3) (
kLd g1 l3 0 fun v12=>
C Qy [a0,v12] g1 n3 fun v13 g2 n13=>
C Zh [v13,(.func (.func Qat) #[] #[ptr l3 0])] g2 n13 fun v15 g3 n15=>
Jc K v15 g3 n15))
theorem Jcv (C:CT) (a0 a1:Value) (g:G) (n:Nat) (K:Cont):ZbV C a0 a1 g n K=Je Tryz.prog C XO [a0,a1] g n K:=by kernel_rfl
def QbJ (C:CT) (a0 a1:Value) (g:G) (n:Nat) (K:Cont):Prop:=
Jg a0 fun v7=>
Qd v7 fun l8 o8=>
kLd g l8 (o8+0) fun v9=>
Jg a0 fun v13=>
Qd v13 fun l14 o14=>
kLd g l14 (o14+1) fun v15=>
C Jb6 [v9,a1] g n fun v11 g1 n11=>
(Qd (ptr l14 (o14+1)) fun l _=>g1 l=g l)∧Jb .int .mul v11 v15 fun v16=>
Jg a0 fun v18=>
Qd v18 fun l19 o19=>
kLd g1 l19 (o19+2) fun v20=>
Jg a0 fun v24=>
Qd v24 fun l25 o25=>
kLd g1 l25 (o25+1) fun v26=>
Jb .int .add v16 v26 fun v27=>
Jg a0 fun v30=>
Qd v30 fun l31 o31=>
kLd g1 l31 (o31+1) fun v32=>
Jb .int .add v16 v32 fun v33=>
QA v20 (some v16) (some v27) (some v33) 11 fun v34=>
Jc K v34 g1 n11
theorem Qcl (C:CT) (a0 a1:Value) (g:G) (n:Nat) (K:Cont):QbJ C a0 a1 g n K=Je Tryz.prog C Qy [a0,a1] g n K:=by kernel_rfl
def ZF (C:CT) (K:Cont) (I_l1:Qj) (t:Env) (g:G) (n:Nat):Prop:=
Jb .int .lss (t 8) (t 7) fun v9=>
Qa v9 (
Xd (t 0) (t 8) 11 fun v14=>
Qd v14 fun l15 o15=>
Zo g l15 o15 11 fun c15=>
Qbh C (t 1) [.agg c15.toArray] g n fun v16 g1 n16=>
Qa v16 (
Jc K (t 8) g1 n16) (
Jb .int .add (t 8) (.int .i64 1) fun v18=>
I_l1 (puts t [(9,v9),(10,t 8),(5,t 8),(11,t 1),(12,t 0),(13,t 8),(14,v14),(15,.agg c15.toArray),(16,v16),(18,v18),(8,v18)]) g1 n16)) (
Jc K (.int .i64 (-1)) g n)
def QJ (C:CT) (a0 a1:Value) (g:G) (n:Nat) (K:Cont):Prop:=
Jaw a0 fun v7=>
lfp (ZF C K) (puts (Jj [a0,a1]) [(4,.int .i64 0),(6,a0),(7,v7),(8,.int .i64 0)]) g n
theorem Xac (C:CT) (a0 a1:Value) (g:G) (n:Nat) (K:Cont):QJ C a0 a1 g n K=Je Tryz.prog C Zh [a0,a1] g n K:=by kernel_rfl
def Jda (C:CT) (a0:Value) (g:G) (n:Nat) (K:Cont):Prop:=
Zn a0 fun c1=>
Zq c1 .exact g n fun l1 g1 n1=>
kLd g1 l1 (0+0) fun v4=>
Jb .int .eql v4 (.int .i64 0) fun v5=>
Jc K v5 g1 n1
theorem Qdi (C:CT) (a0:Value) (g:G) (n:Nat) (K:Cont):Jda C a0 g n K=Je Tryz.prog C XaH [a0] g n K:=by kernel_rfl
def Ja3 (C:CT) (a0:Value) (g:G) (n:Nat) (K:Cont):Prop:=
Jg a0 fun v4=>
Qd v4 fun l5 o5=>
kLd g l5 (o5+3) fun v6=>
Jb .int .add v6 (.int .i64 1) fun v7=>
Jg a0 fun v8=>
Qd v8 fun l9 o9=>
kSt g l9 (o9+3) v7 fun g1=>
Jg a0 fun v11=>
Qd v11 fun l12 o12=>
kLd g1 l12 (o12+3) fun v13=>
Jc K v13 g1 n
theorem JbG (C:CT) (a0:Value) (g:G) (n:Nat) (K:Cont):Ja3 C a0 g n K=Je Tryz.prog C JV [a0] g n K:=by kernel_rfl
def ZI (C:CT) (K:Cont) (I_l1:Qj) (t:Env) (g:G) (n:Nat):Prop:=
Jb .int .lss (t 8) (t 7) fun v9=>
Qa v9 (
Xd (t 0) (t 8) 9 fun v14=>
Qd v14 fun l15 o15=>
Zo g l15 o15 9 fun c15=>
Qbh C (t 1) [.agg c15.toArray] g n fun v16 g1 n16=>
Qa v16 (
Jc K (t 8) g1 n16) (
Jb .int .add (t 8) (.int .i64 1) fun v18=>
I_l1 (puts t [(9,v9),(10,t 8),(5,t 8),(11,t 1),(12,t 0),(13,t 8),(14,v14),(15,.agg c15.toArray),(16,v16),(18,v18),(8,v18)]) g1 n16)) (
Jc K (.int .i64 (-1)) g n)
def ZN (C:CT) (a0 a1:Value) (g:G) (n:Nat) (K:Cont):Prop:=
Jaw a0 fun v7=>
lfp (ZI C K) (puts (Jj [a0,a1]) [(4,.int .i64 0),(6,a0),(7,v7),(8,.int .i64 0)]) g n
theorem Zai (C:CT) (a0 a1:Value) (g:G) (n:Nat) (K:Cont):ZN C a0 a1 g n K=Je Tryz.prog C Ju [a0,a1] g n K:=by kernel_rfl
def Xbb (C:CT) (a0 a1:Value) (g:G) (n:Nat) (K:Cont):Prop:=
Zn a0 fun c2=>
Zq c2 .exact g n fun l2 g1 n2=>
kLd g1 l2 (0+0) fun v5=>
Qd a1 fun l6 o6=>
kLd g1 l6 o6 fun v6=>
Jb .int .eql v5 v6 fun v7=>
Jc K v7 g1 n2
theorem QbS (C:CT) (a0 a1:Value) (g:G) (n:Nat) (K:Cont):Xbb C a0 a1 g n K=Je Tryz.prog C Zy [a0,a1] g n K:=by kernel_rfl
def Xbq (C:CT) (a0 a1 a2:Value) (g:G) (n:Nat) (K:Cont):Prop:=
Zn a2 fun c5=>
Zq c5 .exact g n fun l5 g1 n5=>
C Q0 [a0,a1] g1 n5 fun v10 g2 n10=>
Jb .int .neq v10 (.int .i64 0) fun v12=>
Qa v12 (
Jc K v10 g2 n10) (
Jg a0 fun v15=>
Qd v15 fun l16 o16=>
C ZB [(ptr l16 (o16+3)),.int .i64 1] g2 n10 fun v17 g3 n17=>
Jg a0 fun v19=>
Qd v19 fun l20 o20=>
kLd g3 l20 (o20+0) fun v21=>
Zo g3 l5 0 8 fun c23=>
Xd v21 a1 8 fun v24=>
Qd v24 fun lg4 og4=>
Zn (.agg c23.toArray) fun cg4=>
cg4.length=8∧Xu g3 lg4 og4 cg4 fun g4=>
Jc K (.int .i64 0) g4 n17)
theorem Xb6 (C:CT) (a0 a1 a2:Value) (g:G) (n:Nat) (K:Cont):Xbq C a0 a1 a2 g n K=Je Tryz.prog C Zau [a0,a1,a2] g n K:=by kernel_rfl
def QfS (C:CT) (a0:Value) (g:G) (n:Nat) (K:Cont):Prop:=
C Jcp [a0] g n fun v5 g1 n5=>
kUn .not v5 fun v6=>
Qa v6 (
Jc K (.string ⟨#[]⟩) g1 n5) (
Zq [.int .u32 0,.int .i32 0,.int .u32 0,.string .empty,.string .empty,.string .empty,.string .empty,.string .empty,.string .empty,.string .empty,.string .empty,.string .empty,.string .empty,.string .empty,.string .empty,.string .empty,.string .empty,.string .empty,.string .empty,.string .empty,.string .empty,.string .empty,.string .empty,.string .empty,.string .empty,.string .empty] .exact g1 n5 fun l3 g2 n3=>
C XaU [(ptr l3 (0+0)),(.func (.func Jcs) #[ptr l3 0] #[])] g2 n3 fun v9 g3 n9=>
Ji (ptr l3 (0+3)) a0 23 1 fun v12=>
Qd v12 fun l13 o13=>
kLd g3 l13 o13 fun v13=>
Jc K v13 g3 n9)
theorem Ze5 (C:CT) (a0:Value) (g:G) (n:Nat) (K:Cont):QfS C a0 g n K=Je Tryz.prog C Qm [a0] g n K:=by kernel_rfl
def Qgs (C:CT) (a0:Value) (g:G) (n:Nat) (K:Cont):Prop:=
Jb .int .geq a0 (.int .i64 0) fun v4=>
Qa v4 (
Jb .int .leq a0 (.int .i64 22) fun v7=>
Jc K v7 g n) (
Jc K (.bool false) g n)
theorem Zfu (C:CT) (a0:Value) (g:G) (n:Nat) (K:Cont):Qgs C a0 g n K=Je Tryz.prog C Jcp [a0] g n K:=by kernel_rfl
def XcE (C:CT) (a0 a1:Value) (g:G) (n:Nat) (K:Cont):Prop:=
Jb .int .eql a0 (.int .i64 0) fun v6=>
Qa v6 (
Jc K (.bool true) g n) (
Qa a1 (
Jb .int .gtr a0 (.int .i64 0) fun v11=>
Qa v11 (
Jb .int .lss a0 (.int .i64 8) fun v15=>
Jc K v15 g n) (
Jc K (.bool false) g n)) (
Jc K (.bool false) g n))
theorem JcR (C:CT) (a0 a1:Value) (g:G) (n:Nat) (K:Cont):XcE C a0 a1 g n K=Je Tryz.prog C Qah [a0,a1] g n K:=by kernel_rfl
def Jd1 (C:CT) (a0:Value) (g:G) (n:Nat) (K:Cont):Prop:=
Jb .int .geq a0 (.int .i64 17) fun v4=>
Qa v4 (
Jb .int .leq a0 (.int .i64 20) fun v7=>
Jc K v7 g n) (
Jc K (.bool false) g n)
theorem QdY (C:CT) (a0:Value) (g:G) (n:Nat) (K:Cont):Jd1 C a0 g n K=Je Tryz.prog C JbM [a0] g n K:=by kernel_rfl
def Xfv (C:CT) (a0 a1:Value) (g:G) (n:Nat) (K:Cont):Prop:=
Jb .int .lss a0 (.int .i64 1) fun v8=>
Qa v8 (
Jc K (.tuple #[.int .i64 0,.int .i64 0,.int .i64 1]) g n) (
Jb .int .gtr a0 (.int .i64 64) fun v11=>
Qa v11 (
Jc K (.tuple #[.int .i64 0,.int .i64 0,.int .i64 1]) g n) (
Jb .int .rem a1 (.int .u64 8) fun v14=>
Jb .int .neq v14 (.int .u64 0) fun v15=>
Qa v15 (
Jc K (.tuple #[.int .i64 0,.int .i64 0,.int .i64 12]) g n) (
Qao .u64 a0 fun v19=>
Jb .int .mul v19 (.int .u64 64) fun v20=>
Jb .int .geq a1 v20 fun v21=>
Qa v21 (
Jc K (.tuple #[.int .i64 0,.int .i64 0,.int .i64 12]) g n) (
Jb .int .quo a1 (.int .u64 64) fun v24=>
Qao .i64 v24 fun v25=>
Jb .int .rem a1 (.int .u64 64) fun v27=>
Jb .int .quo v27 (.int .u64 8) fun v28=>
Qao .i64 v28 fun v29=>
Jc K (.tuple #[v25,v29,.int .i64 0]) g n))))
theorem JeQ (C:CT) (a0 a1:Value) (g:G) (n:Nat) (K:Cont):Xfv C a0 a1 g n K=Je Tryz.prog C Zcy [a0,a1] g n K:=by kernel_rfl
def Ja4 (C:CT) (a0:Value) (g:G) (n:Nat) (K:Cont):Prop:=
Zq [.int .i64 0,.int .i64 0,.int .i64 0,.int .i64 0,.int .i64 0,.int .i64 0,.int .i64 0] .exact g n fun l2 g1 n2=>
Jb .ptr .eql a0 (.pointer none) fun v4=>
Qa v4 (
Xf [.int .i64 0,.int .i64 0,.int .i64 0,.int .i64 0,.int .i64 0,.int .i64 0,.int .i64 0] [] fun c5=>
Zn (.agg c5.toArray) fun cg2=>
cg2.length=7∧Xu g1 l2 0 cg2 fun g2=>
Zo g2 l2 0 7 fun r0=>
Jc K (.agg r0.toArray) g2 n2) (
Jg a0 fun v7=>
Qd v7 fun l8 o8=>
Zo g1 l8 (o8+0) 7 fun c9=>
Zn (.agg c9.toArray) fun cg3=>
cg3.length=7∧Xu g1 l2 0 cg3 fun g3=>
Zo g3 l2 0 7 fun r0=>
Jc K (.agg r0.toArray) g3 n2)
theorem JbL (C:CT) (a0:Value) (g:G) (n:Nat) (K:Cont):Ja4 C a0 g n K=Je Tryz.prog C Jah [a0] g n K:=by kernel_rfl
def JfI (C:CT) (a0 a1:Value) (g:G) (n:Nat) (K:Cont):Prop:=
Qao .u64 a1 fun v7=>
Jb .int .add a0 v7 fun v8=>
Jc K v8 g n
theorem Qfd (C:CT) (a0 a1:Value) (g:G) (n:Nat) (K:Cont):JfI C a0 a1 g n K=Je Tryz.prog C Qct [a0,a1] g n K:=by kernel_rfl
def Jat (C:CT) (K:Cont) (t:Env) (g:G) (n:Nat):Prop:=
Xf [.int .u64 0,.int .u64 0,.int .u64 0,.int .u64 0,.int .u64 0,.int .u64 0,.int .u64 0,.int .u64 0] [] fun c40=>
C JU [t 0,t 1,.int .i64 4,.int .i64 1,.agg c40.toArray] g n fun v41 g6 n41=>
Jc K (.tuple #[.int .u64 0,.bool false,v41]) g6 n41
def QG (C:CT) (K:Cont) (t:Env) (g:G) (n:Nat):Prop:=
Qa (t 23) (
Jg (t 0) fun v29=>
Qd v29 fun l30 o30=>
kLd g l30 (o30+0) fun v31=>
C Zan [v31,t 1] g n fun v33 g5 n33=>
Qd (t 9) fun l35 o35=>
Ji (ptr l35 (o35+2)) (t 2) 8 1 fun v36=>
Qd v36 fun l37 o37=>
kLd g5 l37 o37 fun v37=>
Jc K (.tuple #[v37,.bool true,.slice none 0 0]) g5 n33) (
Jat C K t g n)
def Xbw (C:CT) (a0 a1 a2:Value) (g:G) (n:Nat) (K:Cont):Prop:=
Jb .ptr .eql a0 (.pointer none) fun v11=>
Qa v11 (
Jc K (.tuple #[.int .u64 0,.bool false,.slice none 0 0]) g n) (
C JaW [a1,a2] g n fun v15 g1 n15=>
kUn .not v15 fun v16=>
Qa v16 (
Jc K (.tuple #[.int .u64 0,.bool false,.slice none 0 0]) g1 n15) (
C Zs [a0,a1] g1 n15 fun v20 g2 n20=>
Zq [.int .i64 0,.int .i64 0,.int .u64 0,.int .u64 0,.int .u64 0,.int .u64 0,.int .u64 0,.int .u64 0,.int .u64 0,.int .u64 0,.int .i64 0] .exact g2 n20 fun l9 g3 n9=>
Zn v20 fun cg4=>
cg4.length=11∧Xu g3 l9 0 cg4 fun g4=>
kLd g4 l9 (0+0) fun v22=>
Jb .int .eql v22 (.int .i64 1) fun v24=>
Qa v24 (
QG C K (puts (Jj [a0,a1,a2]) [(6,.int .u64 0),(7,.bool false),(8,.slice none 0 0),(10,a0),(11,v11),(12,.bool false),(13,a1),(14,a2),(15,v15),(16,v16),(17,v16),(18,a0),(19,a1),(20,v20),(9,ptr l9 0),(21,(ptr l9 (0+0))),(22,v22),(24,v24),(23,v24)]) g4 n9) (
Jb .int .eql v22 (.int .i64 2) fun v25=>
Qa v25 (
QG C K (puts (Jj [a0,a1,a2]) [(6,.int .u64 0),(7,.bool false),(8,.slice none 0 0),(10,a0),(11,v11),(12,.bool false),(13,a1),(14,a2),(15,v15),(16,v16),(17,v16),(18,a0),(19,a1),(20,v20),(9,ptr l9 0),(21,(ptr l9 (0+0))),(22,v22),(24,v24),(23,v24),(25,v25),(23,v25)]) g4 n9) (
Jb .int .eql v22 (.int .i64 3) fun v26=>
Qa v26 (
QG C K (puts (Jj [a0,a1,a2]) [(6,.int .u64 0),(7,.bool false),(8,.slice none 0 0),(10,a0),(11,v11),(12,.bool false),(13,a1),(14,a2),(15,v15),(16,v16),(17,v16),(18,a0),(19,a1),(20,v20),(9,ptr l9 0),(21,(ptr l9 (0+0))),(22,v22),(24,v24),(23,v24),(25,v25),(23,v25),(26,v26),(23,v26)]) g4 n9) (
Jb .int .eql v22 (.int .i64 6) fun v27=>
QG C K (puts (Jj [a0,a1,a2]) [(6,.int .u64 0),(7,.bool false),(8,.slice none 0 0),(10,a0),(11,v11),(12,.bool false),(13,a1),(14,a2),(15,v15),(16,v16),(17,v16),(18,a0),(19,a1),(20,v20),(9,ptr l9 0),(21,(ptr l9 (0+0))),(22,v22),(24,v24),(23,v24),(25,v25),(23,v25),(26,v26),(23,v26),(27,v27),(23,v27)]) g4 n9)))))
theorem Qb6 (C:CT) (a0 a1 a2:Value) (g:G) (n:Nat) (K:Cont):Xbw C a0 a1 a2 g n K=Je Tryz.prog C Qau [a0,a1,a2] g n K:=by kernel_rfl
def XaJ (C:CT) (K:Cont) (t:Env) (g:G) (n:Nat):Prop:=
Qa (t 29) (
Qd (t 1) fun l33 o33=>
kLd g l33 (o33+2) fun v34=>
Jb .int .eql v34 (.int .i64 0) fun v35=>
Qa v35 (
Qd (t 1) fun l37 o37=>
kLd g l37 (o37+3) fun v38=>
Jb .int .eql v38 (.int .u64 0) fun v39=>
Jc K v39 g n) (
Jc K (.bool false) g n)) (
Jc K (.bool false) g n)
def Qd2 (C:CT) (a0:Value) (g:G) (n:Nat) (K:Cont):Prop:=
Zn a0 fun c1=>
Zq c1 .exact g n fun l1 g1 n1=>
kLd g1 l1 (0+1) fun v4=>
Jb .int .lss v4 (.int .i64 0) fun v5=>
Qa v5 (
Jc K (.bool false) g1 n1) (
kLd g1 l1 (0+1) fun v8=>
Jb .int .geq v8 (.int .i64 64) fun v9=>
Qa v9 (
Jc K (.bool false) g1 n1) (
kLd g1 l1 (0+2) fun v13=>
Jb .int .lss v13 (.int .i64 0) fun v14=>
Qa v14 (
Jc K (.bool false) g1 n1) (
kLd g1 l1 (0+2) fun v18=>
Jb .int .geq v18 (.int .i64 8) fun v19=>
Qa v19 (
Jc K (.bool false) g1 n1) (
kLd g1 l1 (0+4) fun v23=>
Qa v23 (
Jc K (.bool false) g1 n1) (
kLd g1 l1 (0+0) fun v26=>
Jb .int .eql v26 (.int .i64 9) fun v28=>
Qa v28 (
Jc K (.bool true) g1 n1) (
Jb .int .eql v26 (.int .i64 12) fun v30=>
Qa v30 (
XaJ C K (puts (Jj [a0]) [(1,ptr l1 0),(2,.bool false),(3,(ptr l1 (0+1))),(4,v4),(5,v5),(6,.bool false),(7,(ptr l1 (0+1))),(8,v8),(9,v9),(10,v9),(11,.bool false),(12,(ptr l1 (0+2))),(13,v13),(14,v14),(15,v14),(16,.bool false),(17,(ptr l1 (0+2))),(18,v18),(19,v19),(20,v19),(21,.bool false),(22,(ptr l1 (0+4))),(23,v23),(24,v23),(25,(ptr l1 (0+0))),(26,v26),(28,v28),(27,v28),(30,v30),(29,v30)]) g1 n1) (
Jb .int .eql v26 (.int .i64 13) fun v31=>
Qa v31 (
XaJ C K (puts (Jj [a0]) [(1,ptr l1 0),(2,.bool false),(3,(ptr l1 (0+1))),(4,v4),(5,v5),(6,.bool false),(7,(ptr l1 (0+1))),(8,v8),(9,v9),(10,v9),(11,.bool false),(12,(ptr l1 (0+2))),(13,v13),(14,v14),(15,v14),(16,.bool false),(17,(ptr l1 (0+2))),(18,v18),(19,v19),(20,v19),(21,.bool false),(22,(ptr l1 (0+4))),(23,v23),(24,v23),(25,(ptr l1 (0+0))),(26,v26),(28,v28),(27,v28),(30,v30),(29,v30),(31,v31),(29,v31)]) g1 n1) (
Jb .int .eql v26 (.int .i64 14) fun v32=>
XaJ C K (puts (Jj [a0]) [(1,ptr l1 0),(2,.bool false),(3,(ptr l1 (0+1))),(4,v4),(5,v5),(6,.bool false),(7,(ptr l1 (0+1))),(8,v8),(9,v9),(10,v9),(11,.bool false),(12,(ptr l1 (0+2))),(13,v13),(14,v14),(15,v14),(16,.bool false),(17,(ptr l1 (0+2))),(18,v18),(19,v19),(20,v19),(21,.bool false),(22,(ptr l1 (0+4))),(23,v23),(24,v23),(25,(ptr l1 (0+0))),(26,v26),(28,v28),(27,v28),(30,v30),(29,v30),(31,v31),(29,v31),(32,v32),(29,v32)]) g1 n1))))))))
theorem Zd5 (C:CT) (a0:Value) (g:G) (n:Nat) (K:Cont):Qd2 C a0 g n K=Je Tryz.prog C XbC [a0] g n K:=by kernel_rfl
def Xeb (C:CT) (g:G) (n:Nat) (K:Cont):Prop:=
XdW (.map []) g n fun l1 g1 n1=>
Xf [.nilFunc] [(0,none,(.func (.func ZA) #[] #[]))] fun c2=>
ZaF .i64 (.map (some l1)) (.int .i64 2) (.agg c2.toArray) g1 fun g2=>
Xf [.nilFunc] [(0,none,(.func (.func XH) #[] #[]))] fun c3=>
ZaF .i64 (.map (some l1)) (.int .i64 3) (.agg c3.toArray) g2 fun g3=>
Xf [.nilFunc] [(0,none,(.func (.func QN) #[] #[]))] fun c4=>
ZaF .i64 (.map (some l1)) (.int .i64 4) (.agg c4.toArray) g3 fun g4=>
Xf [.nilFunc] [(0,none,(.func (.func ZX) #[] #[]))] fun c5=>
ZaF .i64 (.map (some l1)) (.int .i64 5) (.agg c5.toArray) g4 fun g5=>
Xf [.nilFunc] [(0,none,(.func (.func Qab) #[] #[]))] fun c6=>
ZaF .i64 (.map (some l1)) (.int .i64 6) (.agg c6.toArray) g5 fun g6=>
Xf [.nilFunc] [(0,none,(.func (.func Xao) #[] #[]))] fun c7=>
ZaF .i64 (.map (some l1)) (.int .i64 7) (.agg c7.toArray) g6 fun g7=>
Jc K (.map (some l1)) g7 n1
theorem Qd4 (C:CT) (g:G) (n:Nat) (K:Cont):Xeb C g n K=Je Tryz.prog C QbF [] g n K:=by kernel_rfl
def ZV (C:CT) (K:Cont) (t:Env) (g:G) (n:Nat):Prop:=
Jg (t 0) fun v43=>
Qd v43 fun l44 o44=>
kLd g l44 (o44+0) fun v45=>
Qd (t 9) fun l48 o48=>
Zo g l48 o48 8 fun c48=>
C ZJ [v45,t 1,t 2,.agg c48.toArray] g n fun v49 g6 n49=>
Xf [.int .i64 0,.int .i64 0,.bool false,.bool false,.int .u64 0,.int .u64 0,.int .u64 0,.int .u64 0,.int .u64 0,.int .u64 0,.int .u64 0,.int .u64 0] [(0,none,t 3),(1,none,t 1)] fun c52=>
Xf (reps 1 [.int .i64 0,.int .i64 0,.bool false,.bool false,.int .u64 0,.int .u64 0,.int .u64 0,.int .u64 0,.int .u64 0,.int .u64 0,.int .u64 0,.int .u64 0]) [(0,some 12,.agg c52.toArray)] fun c53=>
Zq c53 .exact g6 n49 fun l53 g7 n53=>
Jc K (.slice (some ⟨l53,0,none⟩) 1 1) g7 n53
def XbK (C:CT) (a0 a1 a2 a3 a4:Value) (g:G) (n:Nat) (K:Cont):Prop:=
Zn a4 fun c9=>
Zq c9 .exact g n fun l9 g1 n9=>
C Jar [a0] g1 n9 fun v14 g2 n14=>
kUn .not v14 fun v15=>
Qa v15 (
Jc K (.slice none 0 0) g2 n14) (
Jb .int .neq a2 (.int .i64 6) fun v17=>
Qa v17 (
Jg a0 fun v20=>
Qd v20 fun l21 o21=>
kLd g2 l21 (o21+0) fun v22=>
C Xau [v22,a1] g2 n14 fun v24 g3 n24=>
Xc v24 0 fun v25=>
Xc v24 1 fun v26=>
kUn .not v25 fun v29=>
Qa v29 (
Jb .int .lss v26 (.int .i64 0) fun v32=>
Qa v32 (
Jc K (.slice none 0 0) g3 n24) (
kUn .not v25 fun v36=>
Qa v36 (
C Zs [a0,v26] g3 n24 fun v40 g4 n40=>
C Jad [a0,v40] g4 n40 fun v41 g5 n41=>
Jc K v41 g5 n41) (
ZV C K (puts (Jj [a0,a1,a2,a3,a4]) [(9,ptr l9 0),(10,.slice none 0 0),(13,a0),(14,v14),(15,v15),(16,a2),(17,v17),(19,a0),(20,v20),(21,(ptr l21 (o21+0))),(22,v22),(23,a1),(24,v24),(18,v24),(25,v25),(26,v26),(11,v25),(12,v26),(28,v25),(29,v29),(30,.bool true),(31,v26),(32,v32),(33,v32),(27,v32),(35,v25),(36,v36),(34,v36)]) g3 n24))) (
kUn .not v25 fun v36=>
Qa v36 (
C Zs [a0,v26] g3 n24 fun v40 g8 n40=>
C Jad [a0,v40] g8 n40 fun v41 g9 n41=>
Jc K v41 g9 n41) (
ZV C K (puts (Jj [a0,a1,a2,a3,a4]) [(9,ptr l9 0),(10,.slice none 0 0),(13,a0),(14,v14),(15,v15),(16,a2),(17,v17),(19,a0),(20,v20),(21,(ptr l21 (o21+0))),(22,v22),(23,a1),(24,v24),(18,v24),(25,v25),(26,v26),(11,v25),(12,v26),(28,v25),(29,v29),(30,.bool false),(31,undef),(32,undef),(33,.bool false),(27,.bool false),(35,v25),(36,v36),(34,v36)]) g3 n24))) (
ZV C K (puts (Jj [a0,a1,a2,a3,a4]) [(9,ptr l9 0),(10,.slice none 0 0),(13,a0),(14,v14),(15,v15),(16,a2),(17,v17)]) g2 n14))
theorem Qcc (C:CT) (a0 a1 a2 a3 a4:Value) (g:G) (n:Nat) (K:Cont):XbK C a0 a1 a2 a3 a4 g n K=Je Tryz.prog C JU [a0,a1,a2,a3,a4] g n K:=by kernel_rfl
def XbV (C:CT) (a0 a1:Value) (g:G) (n:Nat) (K:Cont):Prop:=
Jb .ptr .eql a0 (.pointer none) fun v7=>
Qa v7 (
Jc K (.int .i64 1) g n) (
Jb .int .lss a1 (.int .i64 0) fun v10=>
Qa v10 (
Jc K (.int .i64 12) g n) (
Jg a0 fun v14=>
Qd v14 fun l15 o15=>
kLd g l15 (o15+0) fun v16=>
Jaw v16 fun v17=>
Jb .int .geq a1 v17 fun v18=>
Qa v18 (
Jc K (.int .i64 12) g n) (
Jc K (.int .i64 0) g n)))
theorem Jcu (C:CT) (a0 a1:Value) (g:G) (n:Nat) (K:Cont):XbV C a0 a1 g n K=Je Tryz.prog C Q0 [a0,a1] g n K:=by kernel_rfl
def Zbv (C:CT) (K:Cont) (I_l1:Qj) (t:Env) (g:G) (n:Nat):Prop:=
Jb .int .lss (t 30) (t 29) fun v31=>
Qa v31 (
Xd (t 28) (t 30) 1 fun v32=>
Qd v32 fun l33 o33=>
kLd g l33 o33 fun v33=>
C ZK [t 0,v33,t 4] g n fun v37 g5 n37=>
Jb .int .add (t 30) (.int .i64 1) fun v38=>
I_l1 (puts t [(31,v31),(32,v32),(33,v33),(11,v33),(34,t 0),(35,v33),(36,t 4),(37,v37),(38,v38),(30,v38)]) g5 n37) (
Jc K (.tuple #[]) g n)
def Jci (C:CT) (a0 a1 a2 a3 a4:Value) (g:G) (n:Nat) (K:Cont):Prop:=
Jg a0 fun v18=>
Qd v18 fun l19 o19=>
kSt g l19 (o19+0+12) a1 fun g1=>
Jg a0 fun v21=>
Qd v21 fun l22 o22=>
kSt g1 l22 (o22+0+13) a2 fun g2=>
Jg a0 fun v24=>
Qd v24 fun l25 o25=>
kSt g2 l25 (o25+0+14) a3 fun g3=>
C Qbi [a3] g3 n fun v28 g4 n28=>
Jaw v28 fun v29=>
lfp (Zbv C K) (puts (Jj [a0,a1,a2,a3,a4]) [(12,a0),(13,a0),(14,a0),(15,a1),(16,a2),(17,a3),(18,v18),(19,(ptr l19 (o19+0))),(20,(ptr l19 (o19+0+12))),(21,v21),(22,(ptr l22 (o22+0))),(23,(ptr l22 (o22+0+13))),(24,v24),(25,(ptr l25 (o25+0))),(26,(ptr l25 (o25+0+14))),(27,a3),(28,v28),(29,v29),(30,.int .i64 0)]) g4 n28
theorem JcI (C:CT) (a0 a1 a2 a3 a4:Value) (g:G) (n:Nat) (K:Cont):Jci C a0 a1 a2 a3 a4 g n K=Je Tryz.prog C ZT [a0,a1,a2,a3,a4] g n K:=by kernel_rfl
def Zbs (C:CT) (a0:Value) (g:G) (n:Nat) (K:Cont):Prop:=
Jg a0 fun v4=>
Qd v4 fun l5 o5=>
kLd g l5 (o5+0+11) fun v7=>
Jg a0 fun v9=>
Qd v9 fun l10 o10=>
kLd g l10 (o10+0+10) fun v12=>
C Zu [v12] g n fun v13 g1 n13=>
(Qd (ptr l5 (o5+0+11)) fun l _=>g1 l=g l)∧Jb .int .or v7 v13 fun v14=>
Jc K v14 g1 n13
theorem Zb1 (C:CT) (a0:Value) (g:G) (n:Nat) (K:Cont):Zbs C a0 g n K=Je Tryz.prog C Q6 [a0] g n K:=by kernel_rfl
def Qbw (C:CT) (a0 a1:Value) (g:G) (n:Nat) (K:Cont):Prop:=
Zn a0 fun c2=>
Zq c2 .exact g n fun l2 g1 n2=>
kLd g1 l2 (0+0) fun v5=>
Jb .int .neq v5 (.int .i64 0) fun v6=>
Qa v6 (
kLd g1 l2 (0+1) fun v9=>
Qd a1 fun l10 o10=>
kLd g1 l10 o10 fun v10=>
Jb .int .eql v9 v10 fun v11=>
Jc K v11 g1 n2) (
Jc K (.bool false) g1 n2)
theorem Xb3 (C:CT) (a0 a1:Value) (g:G) (n:Nat) (K:Cont):Qbw C a0 a1 g n K=Je Tryz.prog C Qat [a0,a1] g n K:=by kernel_rfl
def XaF (C:CT) (K:Cont) (t:Env) (g:G) (n:Nat):Prop:=
Qa (t 8) (
Jb .int .rem (t 1) (t 0) fun v15=>
Jc K v15 g n) (
Jc K (.int .i64 0) g n)
def JeH (C:CT) (a0 a1:Value) (g:G) (n:Nat) (K:Cont):Prop:=
Jb .int .lss a1 (.int .i64 0) fun v6=>
Qa v6 (
Jc K (.int .i64 0) g n) (
Jb .int .eql a0 (.int .i64 1) fun v9=>
Qa v9 (
XaF C K (puts (Jj [a0,a1]) [(4,.int .i64 0),(5,a1),(6,v6),(7,a0),(9,v9),(8,v9)]) g n) (
Jb .int .eql a0 (.int .i64 2) fun v10=>
Qa v10 (
XaF C K (puts (Jj [a0,a1]) [(4,.int .i64 0),(5,a1),(6,v6),(7,a0),(9,v9),(8,v9),(10,v10),(8,v10)]) g n) (
Jb .int .eql a0 (.int .i64 4) fun v11=>
Qa v11 (
XaF C K (puts (Jj [a0,a1]) [(4,.int .i64 0),(5,a1),(6,v6),(7,a0),(9,v9),(8,v9),(10,v10),(8,v10),(11,v11),(8,v11)]) g n) (
Jb .int .eql a0 (.int .i64 8) fun v12=>
XaF C K (puts (Jj [a0,a1]) [(4,.int .i64 0),(5,a1),(6,v6),(7,a0),(9,v9),(8,v9),(10,v10),(8,v10),(11,v11),(8,v11),(12,v12),(8,v12)]) g n))))
theorem Qen (C:CT) (a0 a1:Value) (g:G) (n:Nat) (K:Cont):JeH C a0 a1 g n K=Je Tryz.prog C Jb6 [a0,a1] g n K:=by kernel_rfl
def Jbg (C:CT) (a0 a1:Value) (g:G) (n:Nat) (K:Cont):Prop:=
C XO [a0,a1] g n fun v7 g1 n7=>
Jb .int .geq v7 (.int .i64 0) fun v9=>
Qa v9 (
C Qy [a0,a1] g1 n7 fun v12 g2 n12=>
C JV [a0] g2 n12 fun v15 g3 n15=>
Xd v12 v7 11 fun v16=>
Qd v16 fun l17 o17=>
kSt g3 l17 (o17+10) v15 fun g4=>
Jc K (.tuple #[]) g4 n15) (
Jc K (.tuple #[]) g1 n7)
theorem QbT (C:CT) (a0 a1:Value) (g:G) (n:Nat) (K:Cont):Jbg C a0 a1 g n K=Je Tryz.prog C Zan [a0,a1] g n K:=by kernel_rfl
def Jdc (C:CT) (a0 a1:Value) (g:G) (n:Nat) (K:Cont):Prop:=
Jb .int .add a0 a1 fun v7=>
Jc K v7 g n
theorem Jdh (C:CT) (a0 a1:Value) (g:G) (n:Nat) (K:Cont):Jdc C a0 a1 g n K=Je Tryz.prog C ZA [a0,a1] g n K:=by kernel_rfl
def Qc6 (C:CT) (a0 a1:Value) (g:G) (n:Nat) (K:Cont):Prop:=
Jb .int .sub a0 a1 fun v7=>
Jc K v7 g n
theorem Xdf (C:CT) (a0 a1:Value) (g:G) (n:Nat) (K:Cont):Qc6 C a0 a1 g n K=Je Tryz.prog C XH [a0,a1] g n K:=by kernel_rfl
def QcW (C:CT) (a0 a1:Value) (g:G) (n:Nat) (K:Cont):Prop:=
Jb .int .and a0 a1 fun v7=>
Jc K v7 g n
theorem Jdg (C:CT) (a0 a1:Value) (g:G) (n:Nat) (K:Cont):QcW C a0 a1 g n K=Je Tryz.prog C QN [a0,a1] g n K:=by kernel_rfl
def Xc9 (C:CT) (a0 a1:Value) (g:G) (n:Nat) (K:Cont):Prop:=
Jb .int .xor a0 a1 fun v7=>
Jc K v7 g n
theorem Qdj (C:CT) (a0 a1:Value) (g:G) (n:Nat) (K:Cont):Xc9 C a0 a1 g n K=Je Tryz.prog C ZX [a0,a1] g n K:=by kernel_rfl
def Qdc (C:CT) (a0 a1:Value) (g:G) (n:Nat) (K:Cont):Prop:=
Jb .int .rem a1 (.int .u64 64) fun v7=>
Jb .int .shl a0 v7 fun v8=>
Jc K v8 g n
theorem Zdj (C:CT) (a0 a1:Value) (g:G) (n:Nat) (K:Cont):Qdc C a0 a1 g n K=Je Tryz.prog C Qab [a0,a1] g n K:=by kernel_rfl
def Jc5 (C:CT) (a0 a1:Value) (g:G) (n:Nat) (K:Cont):Prop:=
Jb .int .rem a1 (.int .u64 64) fun v7=>
Jb .int .shr a0 v7 fun v8=>
Jc K v8 g n
theorem Zde (C:CT) (a0 a1:Value) (g:G) (n:Nat) (K:Cont):Jc5 C a0 a1 g n K=Je Tryz.prog C Xao [a0,a1] g n K:=by kernel_rfl
def Jbs (C:CT) (a0:Value) (g:G) (n:Nat) (K:Cont):Prop:=
Jb .ptr .eql a0 (.pointer none) fun v4=>
Qa v4 (
Jc K (.bool true) g n) (
Jg a0 fun v7=>
Qd v7 fun l8 o8=>
kLd g l8 (o8+0) fun v9=>
C QX [v9] g n fun v10 g1 n10=>
C JB [v10,(.func (.func Xah) #[] #[])] g1 n10 fun v11 g2 n11=>
kUn .not v11 fun v12=>
Jc K v12 g2 n11)
theorem Xb7 (C:CT) (a0:Value) (g:G) (n:Nat) (K:Cont):Jbs C a0 g n K=Je Tryz.prog C Jar [a0] g n K:=by kernel_rfl
def XR (C:CT) (K:Cont) (I_l1:Qj) (t:Env) (g:G) (n:Nat):Prop:=
Qa (t 27) (
Jb .int .lss (t 5) (.int .i64 0) fun v32=>
Qa v32 (
Qd (t 8) fun l39 o39=>
kLd g l39 (o39+1) fun v40=>
Qd (t 8) fun l41 o41=>
kLd g l41 (o41+10) fun v42=>
Jb .int .add (t 19) (.int .i64 1) fun v43=>
I_l1 (puts t [(31,t 5),(32,v32),(33,.bool true),(34,undef),(35,undef),(36,undef),(37,undef),(38,.bool true),(39,(ptr l39 (o39+1))),(40,v40),(41,(ptr l41 (o41+10))),(42,v42),(5,v40),(6,v42),(43,v43),(19,v43)]) g n) (
Qd (t 8) fun l34 o34=>
kLd g l34 (o34+10) fun v35=>
Jb .int .lss v35 (t 6) fun v37=>
Qa v37 (
Qd (t 8) fun l39 o39=>
kLd g l39 (o39+1) fun v40=>
Qd (t 8) fun l41 o41=>
kLd g l41 (o41+10) fun v42=>
Jb .int .add (t 19) (.int .i64 1) fun v43=>
I_l1 (puts t [(31,t 5),(32,v32),(33,.bool false),(34,(ptr l34 (o34+10))),(35,v35),(36,t 6),(37,v37),(38,v37),(39,(ptr l39 (o39+1))),(40,v40),(41,(ptr l41 (o41+10))),(42,v42),(5,v40),(6,v42),(43,v43),(19,v43)]) g n) (
Jb .int .add (t 19) (.int .i64 1) fun v43=>
I_l1 (puts t [(31,t 5),(32,v32),(33,.bool false),(34,(ptr l34 (o34+10))),(35,v35),(36,t 6),(37,v37),(38,v37),(43,v43),(19,v43)]) g n))) (
Jb .int .add (t 19) (.int .i64 1) fun v43=>
I_l1 (puts t [(43,v43),(19,v43)]) g n)
def XaW (C:CT) (K:Cont) (t:Env) (g:G) (n:Nat):Prop:=
Jc K (.tuple #[.bool false,t 5]) g n
def ZaZ (C:CT) (K:Cont) (I_l1:Qj) (t:Env) (g:G) (n:Nat):Prop:=
Jb .int .lss (t 19) (t 18) fun v20=>
Qa v20 (
Xd (t 17) (t 19) 11 fun v21=>
Qd v21 fun l22 o22=>
Zo g l22 o22 11 fun c22=>
Zq [.int .i64 0,.int .i64 0,.int .u64 0,.int .u64 0,.int .u64 0,.int .u64 0,.int .u64 0,.int .u64 0,.int .u64 0,.int .u64 0,.int .i64 0] .exact g n fun l8 g2 n8=>
Zn (.agg c22.toArray) fun cg3=>
cg3.length=11∧Xu g2 l8 0 cg3 fun g3=>
kLd g3 l8 (0+0) fun v24=>
Jb .int .eql v24 (.int .i64 0) fun v26=>
Qa v26 (
Jc K (.tuple #[.bool true,(.int .i64 (-1))]) g3 n8) (
Jb .int .eql v24 (.int .i64 1) fun v28=>
Qa v28 (
XR C K I_l1 (puts t [(20,v20),(21,v21),(22,.agg c22.toArray),(8,ptr l8 0),(23,(ptr l8 (0+0))),(24,v24),(26,v26),(25,v26),(28,v28),(27,v28)]) g3 n8) (
Jb .int .eql v24 (.int .i64 2) fun v29=>
Qa v29 (
XR C K I_l1 (puts t [(20,v20),(21,v21),(22,.agg c22.toArray),(8,ptr l8 0),(23,(ptr l8 (0+0))),(24,v24),(26,v26),(25,v26),(28,v28),(27,v28),(29,v29),(27,v29)]) g3 n8) (
Jb .int .eql v24 (.int .i64 3) fun v30=>
XR C K I_l1 (puts t [(20,v20),(21,v21),(22,.agg c22.toArray),(8,ptr l8 0),(23,(ptr l8 (0+0))),(24,v24),(26,v26),(25,v26),(28,v28),(27,v28),(29,v29),(27,v29),(30,v30),(27,v30)]) g3 n8)))) (
XaW C K (puts t [(20,v20)]) g n)
def Qbs (C:CT) (a0 a1:Value) (g:G) (n:Nat) (K:Cont):Prop:=
Jb .ptr .eql a0 (.pointer none) fun v10=>
Qa v10 (
Jc K (.tuple #[.bool false,(.int .i64 (-1))]) g n) (
Jb .int .lss a1 (.int .i64 0) fun v13=>
Qa v13 (
Jc K (.tuple #[.bool false,(.int .i64 (-1))]) g n) (
C Qy [a0,a1] g n fun v17 g1 n17=>
Jaw v17 fun v18=>
lfp (ZaZ C K) (puts (Jj [a0,a1]) [(4,.bool false),(5,.int .i64 0),(9,a0),(10,v10),(11,.bool false),(12,a1),(13,v13),(14,v13),(5,(.int .i64 (-1))),(6,.int .i64 0),(15,a0),(16,a1),(17,v17),(18,v18),(19,.int .i64 0)]) g1 n17))
theorem Jb4 (C:CT) (a0 a1:Value) (g:G) (n:Nat) (K:Cont):Qbs C a0 a1 g n K=Je Tryz.prog C Xau [a0,a1] g n K:=by kernel_rfl
def Qae (C:CT) (K:Cont) (t:Env) (g:G) (n:Nat):Prop:=
Jg (t 0) fun v18=>
Qd v18 fun l19 o19=>
kLd g l19 (o19+0) fun v20=>
Qd (t 3) fun l21 o21=>
kLd g l21 (o21+1) fun v22=>
Qd (t 3) fun l24 o24=>
Zo g l24 (o24+2) 8 fun c25=>
C ZJ [v20,v22,t 6,.agg c25.toArray] g n fun v26 g6 n26=>
Qd (t 5) fun l27 o27=>
Zo g6 l27 o27 12 fun c27=>
Xf (reps 1 [.int .i64 0,.int .i64 0,.bool false,.bool false,.int .u64 0,.int .u64 0,.int .u64 0,.int .u64 0,.int .u64 0,.int .u64 0,.int .u64 0,.int .u64 0]) [(0,some 12,.agg c27.toArray)] fun c28=>
Zq c28 .exact g6 n26 fun l28 g7 n28=>
Jc K (.slice (some ⟨l28,0,none⟩) 1 1) g7 n28
def QbG (C:CT) (a0 a1:Value) (g:G) (n:Nat) (K:Cont):Prop:=
Zn a1 fun c3=>
Zq c3 .exact g n fun l3 g1 n3=>
kLd g1 l3 (0+1) fun v8=>
Xf [.int .i64 0,.int .i64 0,.bool false,.bool false,.int .u64 0,.int .u64 0,.int .u64 0,.int .u64 0,.int .u64 0,.int .u64 0,.int .u64 0,.int .u64 0] [(0,none,.int .i64 3),(1,none,v8)] fun c9=>
Zq [.int .i64 0,.int .i64 0,.bool false,.bool false,.int .u64 0,.int .u64 0,.int .u64 0,.int .u64 0,.int .u64 0,.int .u64 0,.int .u64 0,.int .u64 0] .exact g1 n3 fun l5 g2 n5=>
Zn (.agg c9.toArray) fun cg3=>
cg3.length=12∧Xu g2 l5 0 cg3 fun g3=>
kLd g3 l3 (0+0) fun v11=>
Jb .int .eql v11 (.int .i64 3) fun v12=>
Qa v12 (
Zo g3 l3 (0+2) 8 fun c14=>
kSt g3 l5 (0+2) (.bool true) fun g4=>
(Qd (ptr l3 (0+2)) fun l _=>g4 l=g3 l)∧Zn (.agg c14.toArray) fun cg5=>
cg5.length=8∧Xu g4 l5 (0+4) cg5 fun g5=>
Qae C K (puts (Jj [a0,a1]) [(3,ptr l3 0),(4,.slice none 0 0),(7,(ptr l3 (0+1))),(8,v8),(9,.agg c9.toArray),(5,ptr l5 0),(6,.int .i64 7),(10,(ptr l3 (0+0))),(11,v11),(12,v12),(13,(ptr l3 (0+2))),(14,.agg c14.toArray),(6,.int .i64 9),(15,(ptr l5 (0+2))),(16,(ptr l5 (0+4)))]) g5 n5) (
Qae C K (puts (Jj [a0,a1]) [(3,ptr l3 0),(4,.slice none 0 0),(7,(ptr l3 (0+1))),(8,v8),(9,.agg c9.toArray),(5,ptr l5 0),(6,.int .i64 7),(10,(ptr l3 (0+0))),(11,v11),(12,v12)]) g3 n5)
theorem Jcn (C:CT) (a0 a1:Value) (g:G) (n:Nat) (K:Cont):QbG C a0 a1 g n K=Je Tryz.prog C Jad [a0,a1] g n K:=by kernel_rfl
def Qcq (C:CT) (K:Cont) (I_l1:Qj) (t:Env) (g:G) (n:Nat):Prop:=
Jb .int .lss (t 5) (.int .i64 8) fun v6=>
Qa v6 (
C Zbl [t 0,t 5] g n fun v10 g1 n10=>
Qa v10 (
Xf (reps 1 [.int .i64 0]) [(0,none,t 5)] fun c13=>
Zq c13 .exact g1 n10 fun l13 g2 n13=>
Zt (t 3) (.slice (some ⟨l13,0,none⟩) 1 1) 1 8 g2 n13 fun v14 g3 n14=>
Jb .int .add (t 5) (.int .i64 1) fun v15=>
I_l1 (puts t [(6,v6),(7,t 5),(4,t 5),(8,t 0),(9,t 5),(10,v10),(11,t 3),(12,t 5),(13,(.slice (some ⟨l13,0,none⟩) 1 1)),(14,v14),(3,v14),(15,v15),(5,v15)]) g3 n14) (
Jb .int .add (t 5) (.int .i64 1) fun v15=>
I_l1 (puts t [(6,v6),(7,t 5),(4,t 5),(8,t 0),(9,t 5),(10,v10),(15,v15),(5,v15)]) g1 n10)) (
Jc K (t 3) g n)
def Qdv (C:CT) (a0:Value) (g:G) (n:Nat) (K:Cont):Prop:=
lfp (Qcq C K) (puts (Jj [a0]) [(2,.slice none 0 0),(3,.slice none 0 0),(5,.int .i64 0)]) g n
theorem JdJ (C:CT) (a0:Value) (g:G) (n:Nat) (K:Cont):Qdv C a0 g n K=Je Tryz.prog C Qbi [a0] g n K:=by kernel_rfl
def QF (C:CT) (a0 a1:Value) (g:G) (n:Nat) (K:Cont):Prop:=
C Zh [a0,a1] g n fun v7 g1 n7=>
Jb .int .geq v7 (.int .i64 0) fun v8=>
Jc K v8 g1 n7
theorem J5 (C:CT) (a0 a1:Value) (g:G) (n:Nat) (K:Cont):QF C a0 a1 g n K=Je Tryz.prog C JB [a0,a1] g n K:=by kernel_rfl
def Qbe (C:CT) (a0:Value) (g:G) (n:Nat) (K:Cont):Prop:=
Jb .ptr .eql a0 (.pointer none) fun v4=>
Qa v4 (
Jc K (.slice none 0 0) g n) (
Jg a0 fun v6=>
Qd v6 fun l7 o7=>
kLd g l7 (o7+2) fun v8=>
C Xx [v8] g n fun v9 g1 n9=>
C Js [v9,(.func (.func XaH) #[] #[])] g1 n9 fun v10 g2 n10=>
Jc K v10 g2 n10)
theorem ZbU (C:CT) (a0:Value) (g:G) (n:Nat) (K:Cont):Qbe C a0 g n K=Je Tryz.prog C QX [a0] g n K:=by kernel_rfl
def Xa2 (C:CT) (a0:Value) (g:G) (n:Nat) (K:Cont):Prop:=
Zn a0 fun c1=>
Zq c1 .exact g n fun l1 g1 n1=>
kLd g1 l1 (0+0) fun v4=>
C Ja6 [v4] g1 n1 fun v5 g2 n5=>
kUn .not v5 fun v6=>
Jc K v6 g2 n5
theorem ZbD (C:CT) (a0:Value) (g:G) (n:Nat) (K:Cont):Xa2 C a0 g n K=Je Tryz.prog C Xah [a0] g n K:=by kernel_rfl
def QcX (C:CT) (a0:Value) (g:G) (n:Nat) (K:Cont):Prop:=
Jb .int .geq a0 (.int .i64 0) fun v4=>
Qa v4 (
Jb .int .leq a0 (.int .i64 3) fun v7=>
Jc K v7 g n) (
Jc K (.bool false) g n)
theorem Xdh (C:CT) (a0:Value) (g:G) (n:Nat) (K:Cont):QcX C a0 g n K=Je Tryz.prog C Ja6 [a0] g n K:=by kernel_rfl
def Xm (C:CT) (K:Cont) (I_l1:Qj) (t:Env) (g:G) (n:Nat):Prop:=
Jb .int .add (t 6) (.int .i64 1) fun v21=>
I_l1 (puts t [(20,t 6),(21,v21),(6,v21)]) g n
def XE (C:CT) (K:Cont) (t:Env) (g:G) (n:Nat):Prop:=
QA (t 0) (some (t 5)) none none 11 fun v38=>
QaJ v38 [.int .i64 0,.int .i64 0,.int .u64 0,.int .u64 0,.int .u64 0,.int .u64 0,.int .u64 0,.int .u64 0,.int .u64 0,.int .u64 0,.int .i64 0] g fun v_ g6=>
QA (t 0) none (some (t 5)) none 11 fun v41=>
Jc K v41 g6 n
def QE (C:CT) (K:Cont) (I_l1:Qj) (t:Env) (g:G) (n:Nat):Prop:=
Jaw (t 0) fun v18=>
Jb .int .lss (t 6) v18 fun v19=>
Qa v19 (
Xd (t 0) (t 6) 11 fun v24=>
Qd v24 fun l25 o25=>
Zo g l25 o25 11 fun c25=>
Zq [.int .i64 0,.int .i64 0,.int .u64 0,.int .u64 0,.int .u64 0,.int .u64 0,.int .u64 0,.int .u64 0,.int .u64 0,.int .u64 0,.int .i64 0] .exact g n fun l7 g2 n7=>
Zn (.agg c25.toArray) fun cg3=>
cg3.length=11∧Xu g2 l7 0 cg3 fun g3=>
Zo g3 l7 0 11 fun c27=>
Qbh C (t 1) [.agg c27.toArray] g3 n7 fun v28 g4 n28=>
kUn .not v28 fun v29=>
Qa v29 (
Zo g4 l7 0 11 fun c32=>
Xd (t 0) (t 5) 11 fun v33=>
Qd v33 fun lg5 og5=>
Zn (.agg c32.toArray) fun cg5=>
cg5.length=11∧Xu g4 lg5 og5 cg5 fun g5=>
Jb .int .add (t 5) (.int .i64 1) fun v35=>
Xm C K I_l1 (puts t [(16,t 6),(17,t 0),(18,v18),(19,v19),(22,t 0),(23,t 6),(24,v24),(25,.agg c25.toArray),(7,ptr l7 0),(26,t 1),(27,.agg c27.toArray),(28,v28),(29,v29),(30,t 0),(31,t 5),(32,.agg c32.toArray),(33,v33),(34,t 5),(35,v35),(5,v35)]) g5 n28) (
Xm C K I_l1 (puts t [(16,t 6),(17,t 0),(18,v18),(19,v19),(22,t 0),(23,t 6),(24,v24),(25,.agg c25.toArray),(7,ptr l7 0),(26,t 1),(27,.agg c27.toArray),(28,v28),(29,v29)]) g4 n28)) (
XE C K (puts t [(16,t 6),(17,t 0),(18,v18),(19,v19)]) g n)
def XI (C:CT) (a0 a1:Value) (g:G) (n:Nat) (K:Cont):Prop:=
C Zh [a0,a1] g n fun v10 g1 n10=>
Jb .int .eql v10 (.int .i64 (-1)) fun v12=>
Qa v12 (
Jc K a0 g1 n10) (
Jb .int .add v10 (.int .i64 1) fun v15=>
lfp (QE C K) (puts (Jj [a0,a1]) [(4,.slice none 0 0),(8,a0),(9,a1),(10,v10),(5,v10),(11,v10),(12,v12),(14,v10),(15,v15),(6,v15)]) g1 n10)
theorem Xaa (C:CT) (a0 a1:Value) (g:G) (n:Nat) (K:Cont):XI C a0 a1 g n K=Je Tryz.prog C Js [a0,a1] g n K:=by kernel_rfl
def QS (C:CT) (a0:Value) (g:G) (n:Nat) (K:Cont):Prop:=
Jb .slice .eql a0 (.slice none 0 0) fun v4=>
Qa v4 (
Jc K (.slice none 0 0) g n) (
Xf (reps 0 [.int .i64 0,.int .i64 0,.int .u64 0,.int .u64 0,.int .u64 0,.int .u64 0,.int .u64 0,.int .u64 0,.int .u64 0,.int .u64 0,.int .i64 0]) [] fun c5=>
Zq c5 .exact g n fun l5 g1 n5=>
Zt (.slice (some ⟨l5,0,none⟩) 0 0) a0 11 88 g1 n5 fun v7 g2 n7=>
Jc K v7 g2 n7)
theorem Zam (C:CT) (a0:Value) (g:G) (n:Nat) (K:Cont):QS C a0 g n K=Je Tryz.prog C Xx [a0] g n K:=by kernel_rfl
end Go.Proofs.YtkdfaijmjmnhjaaGreat.Gen
