import Derived.Test.YtkdfaijmjmnhjaaGreatProg
import Derived.KernelRfl
import Derived.Test.YtkdfaijmjmnhjaaGreatAbsC
/- What the machine comes to on each function, printed by program; each equation is checked by the kernel. -/
set_option linter.all false
set_option linter.deprecated false
namespace Go.Proofs.YtkdfaijmjmnhjaaGreat.Gen
open Go Go.Proofs.YtkdfaijmjmnhjaaGreat.Abs
def J7:FuncId:=3
def ZW:FuncId:=5
def X4:FuncId:=6
def J3:FuncId:=7
def X3:FuncId:=8
def ZaO:FuncId:=9
def XB:FuncId:=10
def Qaz:FuncId:=11
def Jj:FuncId:=12
def Jl:FuncId:=13
def Jah:FuncId:=14
def Xs:FuncId:=15
def Qz:FuncId:=16
def JA:FuncId:=17
def Ju:FuncId:=18
def Zh:FuncId:=19
def XR:FuncId:=20
def QS:FuncId:=21
def JY:FuncId:=22
def QB:FuncId:=23
def ZI:FuncId:=24
def QK:FuncId:=25
def Jaq:FuncId:=26
def Xag:FuncId:=27
def QbQ:FuncId:=28
def Xbh:FuncId:=29
def XY:FuncId:=30
def Qah:FuncId:=31
def QcL:FuncId:=32
def Xas:FuncId:=33
def Jcg:FuncId:=34
def XG:FuncId:=35
def ZaV:FuncId:=36
def Zao:FuncId:=37
def Za1:FuncId:=38
def XaI:FuncId:=39
def ZH:FuncId:=40
def Z6:FuncId:=41
def Jk:FuncId:=42
def JL:FuncId:=43
def Zae:FuncId:=44
def QaI:FuncId:=45
def Xt:FuncId:=46
def J9:FuncId:=47
def QaB:FuncId:=48
def QbY:FuncId:=49
def Zw:FuncId:=50
def Zp:FuncId:=51
def Qay:FuncId:=52
def Xq:FuncId:=53
def ZaN:FuncId:=54
def JaY:FuncId:=55
def Xu:FuncId:=56
def Xa9:FuncId:=57
def Jar:FuncId:=58
def Qbv:FuncId:=59
def J6:FuncId:=60
def Xf:FuncId:=61
def ZbV:FuncId:=62
def JcM:FuncId:=63
def Q5:FuncId:=64
def Za3:FuncId:=65
def QaJ:FuncId:=66
def Xbw:FuncId:=67
def Jq:FuncId:=68
def XaL:FuncId:=69
def Jv:FuncId:=70
def XaE:FuncId:=71
def Zq:FuncId:=72
def Zay:FuncId:=73
def JC:FuncId:=74
def ZB:FuncId:=75
def Zar:FuncId:=76
def Jae:FuncId:=77
def Zas:FuncId:=78
def ZC:FuncId:=79
def Qaw:FuncId:=80
def Xbo:FuncId:=81
def Qa2:FuncId:=82
def JaN:FuncId:=83
def ZaM:FuncId:=84
def Xcb:FuncId:=85
def Jcj:FuncId:=86
def JbT:FuncId:=87
def Qs:FuncId:=88
def Xb5:FuncId:=89
def XaA:FuncId:=90
def XaG:FuncId:=91
def QL:FuncId:=92
def Jbf:FuncId:=93
def Qbs:FuncId:=94
def Jt:FuncId:=95
def Jaw:FuncId:=96
def Qaf:FuncId:=97
def Qae:FuncId:=98
def Jaa:FuncId:=99
def Qt:FuncId:=100
def QM:FuncId:=101
def Xr:FuncId:=102
def JbL:FuncId:=103
def Jr:FuncId:=104
def QT:FuncId:=105
def QaD:FuncId:=106
def Zcf:FuncId:=107
def Zbq:FuncId:=108
def Xal:FuncId:=109
def ZaB:FuncId:=110
def Zad:FuncId:=111
def Zaz:FuncId:=112
def Zai:FuncId:=113
def Qas:FuncId:=114
def Xdf:FuncId:=115
def Jca:FuncId:=116
def Xa0:FuncId:=117
def JS:FuncId:=118
def Z7:FuncId:=119
def Jbu:FuncId:=120
def ZaG:FuncId:=122
def JdH:FuncId:=123
def Zaw:FuncId:=124
def Xav:FuncId:=125
def JaF:FuncId:=126
def Jao:FuncId:=127
def Qav:FuncId:=128
def JaA:FuncId:=129
def ZS:FuncId:=130
def Jy:FuncId:=131
def Xh:FuncId:=132
def QaP:FuncId:=133
def X1:FuncId:=134
def Xv:FuncId:=135
def Zy:FuncId:=136
def Xaz:FuncId:=137
def Zbg:FuncId:=139
def Xn:FuncId:=143
def QcB:FuncId:=144
def Xak:FuncId:=145
def JH:FuncId:=146
def JbO:FuncId:=147
def QcK:FuncId:=148
def Xam:FuncId:=149
def ZcH:FuncId:=150
def ZaA:FuncId:=151
def QbM:FuncId:=152
def XbR:FuncId:=153
def XZ:FuncId:=154
def Z9:FuncId:=156
def JW:FuncId:=157
def Jad:FuncId:=158
def Xax:FuncId:=159
def Qcb:FuncId:=160
def JcH:FuncId:=165
def Xar:FuncId:=167
def Xz:FuncId:=168
def ZJ:FuncId:=169
def XQ:FuncId:=170
def Z5:FuncId:=171
def Xaf:FuncId:=172
def Jau:FuncId:=173
def JaB:FuncId:=174
def Jax:FuncId:=175
def Qai:FuncId:=176
def Xbs:FuncId:=177
def XC:FuncId:=187
def J5:FuncId:=188
def Zan:FuncId:=189
def Jbd:FuncId:=190
def Zt:FuncId:=202
def Qy:FuncId:=203
def Qu (C:CT) (K:Cont) (t:Env) (g:G) (n:Nat):Prop:=
C Jl [t 10,t 8] g n fun v124 g15 n124=>
Qan v124 fun v126=>
Jb .int .eql v126 (.int .i64 1) fun v127=>
Qa v127 (
Jd v124 (.int .i64 0) 5 fun v130=>
Qd v130 fun l131 o131=>
kLd g15 l131 (o131+0) fun v132=>
Jb .int .eql v132 (.int .i64 12) fun v133=>
Qa v133 (
C Jah [t 10] g15 n124 fun v137 g16 n137=>
Jb .int .add (t 5) (.int .i64 1) fun v139=>
Jb .int .eql v137 v139 fun v140=>
Qa v140 (
C Xs [t 10] g16 n137 fun v144 g17 n144=>
Qan v144 fun v145=>
Jb .int .eql v145 (t 5) fun v147=>
Qa v147 (
C Zh [] g17 n144 fun v150 g18 n150=>
Jc K v150 g18 n150) (
Jc K (.bool false) g17 n144)) (
Jc K (.bool false) g16 n137)) (
Jc K (.bool false) g15 n124)) (
Jc K (.bool false) g15 n124)
def ZaC (C:CT) (K:Cont) (I_l7:Qm) (t:Env) (g:G) (n:Nat):Prop:=
Jb .int .lss (t 15) (.int .i64 10) fun v105=>
Qa v105 (
C Xs [t 10] g n fun v108 g11 n108=>
Qan v108 fun v109=>
Jb .int .eql v109 (t 5) fun v111=>
Qa v111 (
C Qz [t 10,t 8] g11 n108 fun v117 g12 n117=>
C JA [t 8,.int .i64 0] g12 n117 fun v119 g13 n119=>
C Ju [t 8,.int .i64 0] g13 n119 fun v121 g14 n121=>
Jb .int .add (t 15) (.int .i64 1) fun v114=>
I_l7 (puts t [(104,t 15),(105,v105),(106,.bool true),(107,t 10),(108,v108),(109,v109),(110,t 5),(111,v111),(112,v111),(115,t 10),(116,t 8),(117,v117),(118,t 8),(119,v119),(120,t 8),(121,v121),(113,t 15),(114,v114),(15,v114)]) g14 n121) (
Qu C K (puts t [(104,t 15),(105,v105),(106,.bool true),(107,t 10),(108,v108),(109,v109),(110,t 5),(111,v111),(112,v111)]) g11 n108)) (
Qu C K (puts t [(104,t 15),(105,v105),(106,.bool false),(107,undef),(108,undef),(109,undef),(110,undef),(111,undef),(112,.bool false)]) g n)
def J8 (C:CT) (K:Cont) (t:Env) (g:G) (n:Nat):Prop:=
lfp (ZaC C K) (puts t [(15,.int .i64 0)]) g n
def QaC (C:CT) (K:Cont) (I_l5:Qm) (t:Env) (g:G) (n:Nat):Prop:=
ZO .i64 (t 1) fun v81=>
Jb .int .rem v81 (.int .i64 5) fun v82=>
Jb .int .lss (t 14) v82 fun v83=>
Qa v83 (
C Jl [t 10,t 8] g n fun v88 g8 n88=>
Qan v88 fun v89=>
Jb .int .neq v89 (.int .i64 0) fun v90=>
Qa v90 (
Jc K (.bool false) g8 n88) (
C Jah [t 10] g8 n88 fun v93 g9 n93=>
Jb .int .neq v93 (t 5) fun v95=>
Qa v95 (
Jc K (.bool false) g9 n93) (
C Xs [t 10] g9 n93 fun v99 g10 n99=>
Qan v99 fun v100=>
Jb .int .neq v100 (t 5) fun v102=>
Qa v102 (
Jc K (.bool false) g10 n99) (
Jb .int .add (t 14) (.int .i64 1) fun v85=>
I_l5 (puts t [(79,t 14),(80,t 1),(81,v81),(82,v82),(83,v83),(86,t 10),(87,t 8),(88,v88),(89,v89),(90,v90),(91,.bool false),(92,t 10),(93,v93),(94,t 5),(95,v95),(96,v95),(97,.bool false),(98,t 10),(99,v99),(100,v100),(101,t 5),(102,v102),(103,v102),(84,t 14),(85,v85),(14,v85)]) g10 n99)))) (
J8 C K (puts t [(79,t 14),(80,t 1),(81,v81),(82,v82),(83,v83)]) g n)
def X7 (C:CT) (K:Cont) (t:Env) (g:G) (n:Nat):Prop:=
lfp (QaC C K) (puts t [(14,.int .i64 0)]) g n
def XaC (C:CT) (K:Cont) (I_l3:Qm) (t:Env) (g:G) (n:Nat):Prop:=
Jb .int .lss (t 12) (t 5) fun v63=>
Qa v63 (
C Jl [t 10,t 8] g n fun v68 g7 n68=>
Qan v68 fun v70=>
Jb .int .neq v70 (.int .i64 1) fun v71=>
Qa v71 (
Jc K (.bool false) g7 n68) (
Jd v68 (.int .i64 0) 5 fun v74=>
Qd v74 fun l75 o75=>
kLd g7 l75 (o75+0) fun v76=>
Jb .int .neq v76 (.int .i64 12) fun v77=>
Qa v77 (
Jc K (.bool false) g7 n68) (
Jb .int .add (t 12) (.int .i64 1) fun v65=>
I_l3 (puts t [(61,t 12),(62,t 5),(63,v63),(66,t 10),(67,t 8),(68,v68),(13,v68),(69,v68),(70,v70),(71,v71),(72,.bool false),(73,v68),(74,v74),(75,(ptr l75 (o75+0))),(76,v76),(77,v77),(78,v77),(64,t 12),(65,v65),(12,v65)]) g7 n68))) (
X7 C K (puts t [(61,t 12),(62,t 5),(63,v63)]) g n)
def Z8 (C:CT) (K:Cont) (t:Env) (g:G) (n:Nat):Prop:=
C XB [] g n fun v36 g3 n36=>
C ZaO [v36,.slice none 0 0] g3 n36 fun v37 g4 n37=>
Zc v37 0 fun v38=>
Zc v37 1 fun v39=>
C Jj [t 6] g4 n37 fun v43 g5 n43=>
C Qaz [.int .i64 0,t 5,v43] g5 n43 fun v44 g6 n44=>
Zc v44 0 fun v45=>
Zc v44 1 fun v46=>
Jb .int .neq v39 (.int .i64 0) fun v48=>
Qa v48 (
Jc K (.bool false) g6 n44) (
Jb .int .neq v46 (.int .i64 0) fun v51=>
Qa v51 (
Jc K (.bool false) g6 n44) (
Jb .ptr .eql v38 (.pointer none) fun v55=>
Qa v55 (
Jc K (.bool false) g6 n44) (
Jb .ptr .eql v45 (.pointer none) fun v59=>
Qa v59 (
Jc K (.bool false) g6 n44) (
lfp (XaC C K) (puts t [(36,v36),(37,v37),(35,v37),(38,v38),(39,v39),(8,v38),(9,v39),(41,t 5),(42,t 6),(43,v43),(44,v44),(40,v44),(45,v45),(46,v46),(10,v45),(11,v46),(47,v39),(48,v48),(49,.bool false),(50,v46),(51,v51),(52,v51),(53,.bool false),(54,v38),(55,v55),(56,v55),(57,.bool false),(58,v45),(59,v59),(60,v59),(12,.int .i64 0)]) g6 n44))))
def ZaD (C:CT) (K:Cont) (I_l1:Qm) (t:Env) (g:G) (n:Nat):Prop:=
Jb .int .add (t 5) (.int .i64 2) fun v23=>
Jb .int .lss (t 7) v23 fun v24=>
Qa v24 (
Jb .int .rem (t 7) (.int .i64 8) fun v29=>
Jb .int .mul (.int .i64 8) v29 fun v30=>
Jb .int .add (.int .i64 192) v30 fun v31=>
Qe [.int .i64 0,.int .i64 0,.int .i64 0,.int .i64 0,.int .i64 0] [(0,none,.int .i64 9),(1,none,.int .i64 0),(2,none,.int .i64 0),(4,none,v31)] fun c32=>
Qe (reps 1 [.int .i64 0,.int .i64 0,.int .i64 0,.int .i64 0,.int .i64 0]) [(0,some 5,.agg c32.toArray)] fun c33=>
Qp c33 .exact g n fun l33 g1 n33=>
Qx (t 6) (.slice (some ⟨l33,0,none⟩) 1 1) 5 40 g1 n33 fun v34 g2 n34=>
Jb .int .add (t 7) (.int .i64 1) fun v26=>
I_l1 (puts t [(21,t 7),(22,t 5),(23,v23),(24,v24),(27,t 6),(28,t 7),(29,v29),(30,v30),(31,v31),(32,.agg c32.toArray),(33,(.slice (some ⟨l33,0,none⟩) 1 1)),(34,v34),(6,v34),(25,t 7),(26,v26),(7,v26)]) g2 n34) (
Z8 C K (puts t [(21,t 7),(22,t 5),(23,v23),(24,v24)]) g n)
def XaQ (C:CT) (a0 a1:Value) (g:G) (n:Nat) (K:Cont):Prop:=
ZO .i64 a0 fun v18=>
Jb .int .rem v18 (.int .i64 8) fun v19=>
Jb .int .add (.int .i64 1) v19 fun v20=>
lfp (ZaD C K) (puts (Xi [a0,a1]) [(4,.bool false),(17,a0),(18,v18),(19,v19),(20,v20),(5,v20),(6,.slice none 0 0),(7,.int .i64 0)]) g n
theorem Zbh (C:CT) (a0 a1:Value) (g:G) (n:Nat) (K:Cont):XaQ C a0 a1 g n K=Zf Tryz.prog C J7 [a0,a1] g n K:=by kernel_rfl
def Qaq (C:CT) (K:Cont) (I_l1:Qm) (t:Env) (g:G) (n:Nat):Prop:=
Jb .int .add (t 9) (.int .i64 1) fun v64=>
I_l1 (puts t [(63,t 9),(64,v64),(9,v64)]) g n
def Xj (C:CT) (K:Cont) (I_l1:Qm) (t:Env) (g:G) (n:Nat):Prop:=
C JY [t 7] g n fun v139 g15 n139=>
Jb .int .lss v139 (.int .i64 0) fun v140=>
Qa v140 (
Jc K (.bool false) g15 n139) (
C JY [t 7] g15 n139 fun v143 g16 n143=>
Jb .int .gtr v143 (.int .i64 16) fun v144=>
Qa v144 (
Jc K (.bool false) g16 n143) (
C Xs [t 7] g16 n143 fun v148 g17 n148=>
Qan v148 fun v149=>
Jb .int .gtr v149 (.int .i64 3) fun v150=>
Qa v150 (
Jc K (.bool false) g17 n148) (
Qaq C K I_l1 (puts t [(138,t 7),(139,v139),(140,v140),(141,.bool false),(142,t 7),(143,v143),(144,v144),(145,v144),(146,.bool false),(147,t 7),(148,v148),(149,v149),(150,v150),(151,v150)]) g17 n148)))
def ZG (C:CT) (K:Cont) (I_l1:Qm) (I_l2:Qm) (t:Env) (g:G) (n:Nat):Prop:=
Qan (t 12) fun v87=>
Jb .int .lss (t 13) v87 fun v88=>
Qa v88 (
Jd (t 12) (t 13) 5 fun v93=>
Qd v93 fun l94 o94=>
kLd g l94 (o94+0) fun v95=>
Jb .int .eql v95 (.int .i64 7) fun v96=>
Qa v96 (
kUn .not (t 11) fun v107=>
Qa v107 (
Jc K (.bool false) g n) (
Jb .int .add (t 13) (.int .i64 1) fun v90=>
I_l2 (puts t [(85,t 13),(86,t 12),(87,v87),(88,v88),(91,t 12),(92,t 13),(93,v93),(94,(ptr l94 (o94+0))),(95,v95),(96,v96),(97,.bool true),(98,undef),(99,undef),(100,undef),(101,undef),(102,undef),(103,undef),(104,.bool true),(105,.bool true),(106,t 11),(107,v107),(108,v107),(89,t 13),(90,v90),(13,v90)]) g n)) (
Jd (t 12) (t 13) 5 fun v100=>
Qd v100 fun l101 o101=>
kLd g l101 (o101+0) fun v102=>
Jb .int .eql v102 (.int .i64 4) fun v103=>
Qa v103 (
kUn .not (t 11) fun v107=>
Qa v107 (
Jc K (.bool false) g n) (
Jb .int .add (t 13) (.int .i64 1) fun v90=>
I_l2 (puts t [(85,t 13),(86,t 12),(87,v87),(88,v88),(91,t 12),(92,t 13),(93,v93),(94,(ptr l94 (o94+0))),(95,v95),(96,v96),(97,.bool false),(98,t 12),(99,t 13),(100,v100),(101,(ptr l101 (o101+0))),(102,v102),(103,v103),(104,v103),(105,.bool true),(106,t 11),(107,v107),(108,v107),(89,t 13),(90,v90),(13,v90)]) g n)) (
Jb .int .add (t 13) (.int .i64 1) fun v90=>
I_l2 (puts t [(85,t 13),(86,t 12),(87,v87),(88,v88),(91,t 12),(92,t 13),(93,v93),(94,(ptr l94 (o94+0))),(95,v95),(96,v96),(97,.bool false),(98,t 12),(99,t 13),(100,v100),(101,(ptr l101 (o101+0))),(102,v102),(103,v103),(104,v103),(105,.bool false),(106,undef),(107,undef),(108,.bool false),(89,t 13),(90,v90),(13,v90)]) g n))) (
Xj C K I_l1 (puts t [(85,t 13),(86,t 12),(87,v87),(88,v88)]) g n)
def Jap (C:CT) (K:Cont) (I_l1:Qm) (t:Env) (g:G) (n:Nat):Prop:=
Qan (t 1) fun v61=>
Jb .int .lss (t 9) v61 fun v62=>
Qa v62 (
Jd (t 1) (t 9) 15 fun v67=>
Qd v67 fun l68 o68=>
Qn g l68 o68 15 fun c68=>
Qp [.int .i64 0,.int .i64 0,.int .u64 0,.int .i64 0,.int .i64 0,.bool false,.bool false,.int .u64 0,.int .u64 0,.int .u64 0,.int .u64 0,.int .u64 0,.int .u64 0,.int .u64 0,.int .u64 0] .exact g n fun l10 g10 n10=>
Zm (.agg c68.toArray) fun cg11=>
cg11.length=15∧Js g10 l10 0 cg11 fun g11=>
kLd g11 l10 (0+0) fun v70=>
Jb .int .eql v70 (.int .i64 0) fun v72=>
Qa v72 (
C Xs [t 7] g11 n10 fun v74 g12 n74=>
Qan v74 fun v75=>
Jb .int .eql v75 (.int .i64 0) fun v76=>
Qa v76 (
C JY [t 7] g12 n74 fun v79 g13 n79=>
Jb .int .eql v79 (.int .i64 0) fun v80=>
C Jl [t 7,t 5] g13 n79 fun v84 g14 n84=>
lfp (ZG C K I_l1) (puts t [(59,t 9),(60,t 1),(61,v61),(62,v62),(65,t 1),(66,t 9),(67,v67),(68,.agg c68.toArray),(10,ptr l10 0),(69,(ptr l10 (0+0))),(70,v70),(72,v72),(71,v72),(73,t 7),(74,v74),(75,v75),(76,v76),(77,.bool true),(78,t 7),(79,v79),(80,v80),(81,v80),(11,v80),(82,t 7),(83,t 5),(84,v84),(12,v84),(13,.int .i64 0)]) g14 n84) (
C Jl [t 7,t 5] g12 n74 fun v84 g18 n84=>
lfp (ZG C K I_l1) (puts t [(59,t 9),(60,t 1),(61,v61),(62,v62),(65,t 1),(66,t 9),(67,v67),(68,.agg c68.toArray),(10,ptr l10 0),(69,(ptr l10 (0+0))),(70,v70),(72,v72),(71,v72),(73,t 7),(74,v74),(75,v75),(76,v76),(77,.bool false),(78,undef),(79,undef),(80,undef),(81,.bool false),(11,.bool false),(82,t 7),(83,t 5),(84,v84),(12,v84),(13,.int .i64 0)]) g18 n84)) (
Jb .int .eql v70 (.int .i64 1) fun v110=>
Qa v110 (
C Qz [t 7,t 5] g11 n10 fun v113 g19 n113=>
Xj C K I_l1 (puts t [(59,t 9),(60,t 1),(61,v61),(62,v62),(65,t 1),(66,t 9),(67,v67),(68,.agg c68.toArray),(10,ptr l10 0),(69,(ptr l10 (0+0))),(70,v70),(72,v72),(71,v72),(110,v110),(109,v110),(111,t 7),(112,t 5),(113,v113)]) g19 n113) (
Jb .int .eql v70 (.int .i64 2) fun v115=>
Qa v115 (
C JA [t 5,.int .i64 0] g11 n10 fun v117 g20 n117=>
Xj C K I_l1 (puts t [(59,t 9),(60,t 1),(61,v61),(62,v62),(65,t 1),(66,t 9),(67,v67),(68,.agg c68.toArray),(10,ptr l10 0),(69,(ptr l10 (0+0))),(70,v70),(72,v72),(71,v72),(110,v110),(109,v110),(115,v115),(114,v115),(116,t 5),(117,v117)]) g20 n117) (
Jb .int .eql v70 (.int .i64 3) fun v119=>
Qa v119 (
C QB [t 5,.int .i64 0] g11 n10 fun v121 g21 n121=>
Xj C K I_l1 (puts t [(59,t 9),(60,t 1),(61,v61),(62,v62),(65,t 1),(66,t 9),(67,v67),(68,.agg c68.toArray),(10,ptr l10 0),(69,(ptr l10 (0+0))),(70,v70),(72,v72),(71,v72),(110,v110),(109,v110),(115,v115),(114,v115),(119,v119),(118,v119),(120,t 5),(121,v121)]) g21 n121) (
Jb .int .eql v70 (.int .i64 4) fun v123=>
Qa v123 (
C Ju [t 5,.int .i64 0] g11 n10 fun v126 g22 n126=>
Zc v126 0 fun v127=>
Zc v126 1 fun v128=>
Qp [.int .i64 0,.int .i64 0,.bool false,.bool false,.int .u64 0,.int .u64 0,.int .u64 0,.int .u64 0,.int .u64 0,.int .u64 0,.int .u64 0,.int .u64 0] .exact g22 n126 fun l14 g23 n14=>
Zm v127 fun cg24=>
cg24.length=12∧Js g23 l14 0 cg24 fun g24=>
Qn g24 l14 0 12 fun c130=>
C QS [t 7,.agg c130.toArray] g24 n14 fun v131 g25 n131=>
Xj C K I_l1 (puts t [(59,t 9),(60,t 1),(61,v61),(62,v62),(65,t 1),(66,t 9),(67,v67),(68,.agg c68.toArray),(10,ptr l10 0),(69,(ptr l10 (0+0))),(70,v70),(72,v72),(71,v72),(110,v110),(109,v110),(115,v115),(114,v115),(119,v119),(118,v119),(123,v123),(122,v123),(125,t 5),(126,v126),(124,v126),(127,v127),(128,v128),(14,ptr l14 0),(15,v128),(129,t 7),(130,.agg c130.toArray),(131,v131)]) g25 n131) (
Jb .int .eql v70 (.int .i64 5) fun v133=>
Qa v133 (
kLd g11 l10 (0+1) fun v136=>
C ZI [t 5,v136] g11 n10 fun v137 g26 n137=>
Xj C K I_l1 (puts t [(59,t 9),(60,t 1),(61,v61),(62,v62),(65,t 1),(66,t 9),(67,v67),(68,.agg c68.toArray),(10,ptr l10 0),(69,(ptr l10 (0+0))),(70,v70),(72,v72),(71,v72),(110,v110),(109,v110),(115,v115),(114,v115),(119,v119),(118,v119),(123,v123),(122,v123),(133,v133),(132,v133),(134,t 5),(135,(ptr l10 (0+1))),(136,v136),(137,v137)]) g26 n137) (
Xj C K I_l1 (puts t [(59,t 9),(60,t 1),(61,v61),(62,v62),(65,t 1),(66,t 9),(67,v67),(68,.agg c68.toArray),(10,ptr l10 0),(69,(ptr l10 (0+0))),(70,v70),(72,v72),(71,v72),(110,v110),(109,v110),(115,v115),(114,v115),(119,v119),(118,v119),(123,v123),(122,v123),(133,v133),(132,v133)]) g11 n10))))))) (
C Zh [] g n fun v152 g27 n152=>
Jc K v152 g27 n152)
def JaI (C:CT) (a0 a1:Value) (g:G) (n:Nat) (K:Cont):Prop:=
C XB [] g n fun v17 g1 n17=>
C ZaO [v17,.slice none 0 0] g1 n17 fun v18 g2 n18=>
Zc v18 0 fun v19=>
Zc v18 1 fun v20=>
Qe (reps 0 [.int .u64 0]) [] fun c22=>
Qp c22 .exact g2 n18 fun l22 g3 n22=>
Qx (.slice (some ⟨l22,0,none⟩) 0 0) a0 1 8 g3 n22 fun v24 g4 n24=>
C Qaz [.int .i64 0,.int .i64 3,v24] g4 n24 fun v25 g5 n25=>
Zc v25 0 fun v26=>
Zc v25 1 fun v27=>
Jb .int .neq v20 (.int .i64 0) fun v29=>
Qa v29 (
Jb .int .eql v20 (.int .i64 0) fun v45=>
Qa v45 (
Jb .ptr .neq v19 (.pointer none) fun v48=>
Qa v48 (
C Zh [] g5 n25 fun v51 g6 n51=>
Jc K v51 g6 n51) (
Jc K (.bool false) g5 n25)) (
Jc K (.bool false) g5 n25)) (
Jb .ptr .eql v19 (.pointer none) fun v32=>
Qa v32 (
Jb .int .eql v20 (.int .i64 0) fun v45=>
Qa v45 (
Jb .ptr .neq v19 (.pointer none) fun v48=>
Qa v48 (
C Zh [] g5 n25 fun v51 g7 n51=>
Jc K v51 g7 n51) (
Jc K (.bool false) g5 n25)) (
Jc K (.bool false) g5 n25)) (
Qan a1 fun v36=>
Jb .int .gtr v36 (.int .i64 400) fun v37=>
Qa v37 (
Jb .int .eql v20 (.int .i64 0) fun v45=>
Qa v45 (
Jb .ptr .neq v19 (.pointer none) fun v48=>
Qa v48 (
C Zh [] g5 n25 fun v51 g8 n51=>
Jc K v51 g8 n51) (
Jc K (.bool false) g5 n25)) (
Jc K (.bool false) g5 n25)) (
Qan a0 fun v41=>
Jb .int .gtr v41 (.int .i64 1000) fun v42=>
Qa v42 (
Jb .int .eql v20 (.int .i64 0) fun v45=>
Qa v45 (
Jb .ptr .neq v19 (.pointer none) fun v48=>
Qa v48 (
C Zh [] g5 n25 fun v51 g9 n51=>
Jc K v51 g9 n51) (
Jc K (.bool false) g5 n25)) (
Jc K (.bool false) g5 n25)) (
Jb .int .neq v27 (.int .i64 0) fun v54=>
Qa v54 (
Jc K (.bool false) g5 n25) (
Jb .ptr .eql v26 (.pointer none) fun v57=>
Qa v57 (
Jc K (.bool false) g5 n25) (
lfp (Jap C K) (puts (Xi [a0,a1]) [(4,.bool false),(17,v17),(18,v18),(16,v18),(19,v19),(20,v20),(5,v19),(6,v20),(22,(.slice (some ⟨l22,0,none⟩) 0 0)),(23,a0),(24,v24),(25,v25),(21,v25),(26,v26),(27,v27),(7,v26),(8,v27),(28,v20),(29,v29),(30,.bool false),(31,v19),(32,v32),(33,v32),(34,.bool false),(35,a1),(36,v36),(37,v37),(38,v37),(39,.bool false),(40,a0),(41,v41),(42,v42),(43,v42),(53,v27),(54,v54),(55,.bool false),(56,v26),(57,v57),(58,v57),(9,.int .i64 0)]) g5 n25))))))
theorem Za8 (C:CT) (a0 a1:Value) (g:G) (n:Nat) (K:Cont):JaI C a0 a1 g n K=Zf Tryz.prog C ZW [a0,a1] g n K:=by kernel_rfl
def Jat (C:CT) (K:Cont) (I_l1:Qm) (t:Env) (g:G) (n:Nat):Prop:=
Qan (t 5) fun v41=>
Jb .int .lss (t 8) v41 fun v42=>
Qa v42 (
Jd (t 5) (t 8) 1 fun v47=>
Qd v47 fun l48 o48=>
kLd g l48 o48 fun v48=>
ZO .u64 (t 3) fun v50=>
ZO .u64 (t 8) fun v52=>
Jb .int .sub v50 v52 fun v53=>
Jb .int .neq v48 v53 fun v54=>
Qa v54 (
Jc K (.bool false) g n) (
Jb .int .add (t 8) (.int .i64 1) fun v44=>
I_l1 (puts t [(39,t 8),(40,t 5),(41,v41),(42,v42),(45,t 5),(46,t 8),(47,v47),(48,v48),(49,t 3),(50,v50),(51,t 8),(52,v52),(53,v53),(54,v54),(43,t 8),(44,v44),(8,v44)]) g n)) (
C Zh [] g n fun v55 g4 n55=>
Jc K v55 g4 n55)
def ZaL (C:CT) (a0:Value) (g:G) (n:Nat) (K:Cont):Prop:=
ZO .i64 a0 fun v10=>
Jb .int .rem v10 (.int .i64 12) fun v11=>
Jb .int .add v11 (.int .i64 1) fun v12=>
Qe [.int .i64 0,.int .i64 0,.int .i64 0,.int .i64 0,.int .i64 0] [(0,none,.int .i64 1),(1,none,.int .i64 1),(4,none,v12)] fun c14=>
Qe [.int .i64 0,.int .i64 0,.int .i64 0,.int .i64 0,.int .i64 0] [(0,none,.int .i64 1),(1,none,.int .i64 2),(4,none,.int .i64 1)] fun c15=>
Qe [.int .i64 0,.int .i64 0,.int .i64 0,.int .i64 0,.int .i64 0] [(0,none,.int .i64 1),(1,none,.int .i64 3)] fun c16=>
Qe [.int .i64 0,.int .i64 0,.int .i64 0,.int .i64 0,.int .i64 0] [(0,none,.int .i64 21),(1,none,.int .i64 1)] fun c17=>
Qe [.int .i64 0,.int .i64 0,.int .i64 0,.int .i64 0,.int .i64 0] [(0,none,.int .i64 3),(1,none,.int .i64 1),(2,none,.int .i64 1),(3,none,.int .i64 2)] fun c18=>
Qe [.int .i64 0,.int .i64 0,.int .i64 0,.int .i64 0,.int .i64 0] [(0,none,.int .i64 19),(1,none,.int .i64 1),(2,none,.int .i64 3),(4,none,.int .i64 3)] fun c19=>
Qe [.int .i64 0,.int .i64 0,.int .i64 0,.int .i64 0,.int .i64 0] [(0,none,.int .i64 20),(1,none,.int .i64 3),(2,none,.int .i64 2),(4,none,.int .i64 8)] fun c20=>
Qe [.int .i64 0,.int .i64 0,.int .i64 0,.int .i64 0,.int .i64 0] [(0,none,.int .i64 21),(1,none,.int .i64 2)] fun c21=>
Qe [.int .i64 0,.int .i64 0,.int .i64 0,.int .i64 0,.int .i64 0] [(0,none,.int .i64 22)] fun c22=>
Qe (reps 9 [.int .i64 0,.int .i64 0,.int .i64 0,.int .i64 0,.int .i64 0]) [(0,some 5,.agg c14.toArray),(5,some 5,.agg c15.toArray),(10,some 5,.agg c16.toArray),(15,some 5,.agg c17.toArray),(20,some 5,.agg c18.toArray),(25,some 5,.agg c19.toArray),(30,some 5,.agg c20.toArray),(35,some 5,.agg c21.toArray),(40,some 5,.agg c22.toArray)] fun c23=>
Qp c23 .exact g n fun l23 g1 n23=>
C Jj [(.slice (some ⟨l23,0,none⟩) 9 9)] g1 n23 fun v24 g2 n24=>
C QK [v24,.int .i64 400] g2 n24 fun v27 g3 n27=>
Zc v27 0 fun v28=>
Zc v27 1 fun v29=>
Zc v27 2 fun v30=>
kUn .not v30 fun v32=>
Qa v32 (
Jc K (.bool false) g3 n27) (
Qan v28 fun v35=>
Jb .int .neq v35 v12 fun v37=>
Qa v37 (
Jc K (.bool false) g3 n27) (
lfp (Jat C K) (puts (Xi [a0]) [(2,.bool false),(9,a0),(10,v10),(11,v11),(12,v12),(3,v12),(13,v12),(14,.agg c14.toArray),(15,.agg c15.toArray),(16,.agg c16.toArray),(17,.agg c17.toArray),(18,.agg c18.toArray),(19,.agg c19.toArray),(20,.agg c20.toArray),(21,.agg c21.toArray),(22,.agg c22.toArray),(23,(.slice (some ⟨l23,0,none⟩) 9 9)),(24,v24),(4,v24),(26,v24),(27,v27),(25,v27),(28,v28),(29,v29),(30,v30),(5,v28),(6,v29),(7,v30),(31,v30),(32,v32),(33,.bool false),(34,v28),(35,v35),(36,v12),(37,v37),(38,v37),(8,.int .i64 0)]) g3 n27))
theorem Xbg (C:CT) (a0:Value) (g:G) (n:Nat) (K:Cont):ZaL C a0 g n K=Zf Tryz.prog C X4 [a0] g n K:=by kernel_rfl
def JI (C:CT) (K:Cont) (t:Env) (g:G) (n:Nat):Prop:=
Qa (t 10) (
ZO .u64 (t 0) fun v49=>
ZO .u64 (t 2) fun v53=>
Jb .int .add (t 11) v53 fun v54=>
Qe (reps 3 [.int .u64 0]) [(0,none,v49),(1,none,t 11),(2,none,v54)] fun c55=>
Qp c55 .exact g n fun l55 g4 n55=>
C Jaq [t 8,(.slice (some ⟨l55,0,none⟩) 3 3)] g4 n55 fun v56 g5 n56=>
Qa v56 (
C Zh [] g5 n56 fun v59 g6 n59=>
Jc K v59 g6 n59) (
Jc K (.bool false) g5 n56)) (
Jc K (.bool false) g n)
def XaK (C:CT) (a0 a1 a2:Value) (g:G) (n:Nat) (K:Cont):Prop:=
ZO .i64 a0 fun v13=>
Qe [.int .i64 0,.int .i64 0,.int .i64 0,.int .i64 0,.int .i64 0] [(0,none,.int .i64 1),(1,none,.int .i64 1),(4,none,v13)] fun c14=>
Qe [.int .i64 0,.int .i64 0,.int .i64 0,.int .i64 0,.int .i64 0] [(0,none,.int .i64 1),(1,none,.int .i64 6),(4,none,.int .i64 128)] fun c15=>
Qe [.int .i64 0,.int .i64 0,.int .i64 0,.int .i64 0,.int .i64 0] [(0,none,.int .i64 9),(1,none,.int .i64 1),(2,none,.int .i64 6)] fun c16=>
ZO .i64 a1 fun v18=>
Qe [.int .i64 0,.int .i64 0,.int .i64 0,.int .i64 0,.int .i64 0] [(0,none,.int .i64 1),(1,none,.int .i64 2),(4,none,v18)] fun c19=>
ZO .i64 a2 fun v21=>
Qe [.int .i64 0,.int .i64 0,.int .i64 0,.int .i64 0,.int .i64 0] [(0,none,.int .i64 1),(1,none,.int .i64 3),(4,none,v21)] fun c22=>
Qe [.int .i64 0,.int .i64 0,.int .i64 0,.int .i64 0,.int .i64 0] [(0,none,.int .i64 10),(1,none,.int .i64 2),(2,none,.int .i64 6),(3,none,.int .i64 3)] fun c23=>
Qe [.int .i64 0,.int .i64 0,.int .i64 0,.int .i64 0,.int .i64 0] [(0,none,.int .i64 21),(1,none,.int .i64 2)] fun c24=>
Qe [.int .i64 0,.int .i64 0,.int .i64 0,.int .i64 0,.int .i64 0] [(0,none,.int .i64 11),(1,none,.int .i64 4),(2,none,.int .i64 6),(3,none,.int .i64 3)] fun c25=>
Qe [.int .i64 0,.int .i64 0,.int .i64 0,.int .i64 0,.int .i64 0] [(0,none,.int .i64 21),(1,none,.int .i64 4)] fun c26=>
Qe [.int .i64 0,.int .i64 0,.int .i64 0,.int .i64 0,.int .i64 0] [(0,none,.int .i64 8),(1,none,.int .i64 5),(2,none,.int .i64 6)] fun c27=>
Qe [.int .i64 0,.int .i64 0,.int .i64 0,.int .i64 0,.int .i64 0] [(0,none,.int .i64 21),(1,none,.int .i64 5)] fun c28=>
Qe [.int .i64 0,.int .i64 0,.int .i64 0,.int .i64 0,.int .i64 0] [(0,none,.int .i64 22)] fun c29=>
Qe (reps 12 [.int .i64 0,.int .i64 0,.int .i64 0,.int .i64 0,.int .i64 0]) [(0,some 5,.agg c14.toArray),(5,some 5,.agg c15.toArray),(10,some 5,.agg c16.toArray),(15,some 5,.agg c19.toArray),(20,some 5,.agg c22.toArray),(25,some 5,.agg c23.toArray),(30,some 5,.agg c24.toArray),(35,some 5,.agg c25.toArray),(40,some 5,.agg c26.toArray),(45,some 5,.agg c27.toArray),(50,some 5,.agg c28.toArray),(55,some 5,.agg c29.toArray)] fun c30=>
Qp c30 .exact g n fun l30 g1 n30=>
C Jj [(.slice (some ⟨l30,0,none⟩) 12 12)] g1 n30 fun v31 g2 n31=>
C QK [v31,.int .i64 400] g2 n31 fun v34 g3 n34=>
Zc v34 0 fun v35=>
Zc v34 1 fun v36=>
Zc v34 2 fun v37=>
ZO .u64 a0 fun v39=>
Jb .int .eql a0 a1 fun v42=>
Qa v42 (
ZO .u64 a2 fun v44=>
JI C K (puts (Xi [a0,a1,a2]) [(6,.bool false),(12,a0),(13,v13),(14,.agg c14.toArray),(15,.agg c15.toArray),(16,.agg c16.toArray),(17,a1),(18,v18),(19,.agg c19.toArray),(20,a2),(21,v21),(22,.agg c22.toArray),(23,.agg c23.toArray),(24,.agg c24.toArray),(25,.agg c25.toArray),(26,.agg c26.toArray),(27,.agg c27.toArray),(28,.agg c28.toArray),(29,.agg c29.toArray),(30,(.slice (some ⟨l30,0,none⟩) 12 12)),(31,v31),(7,v31),(33,v31),(34,v34),(32,v34),(35,v35),(36,v36),(37,v37),(8,v35),(9,v36),(10,v37),(38,a0),(39,v39),(11,v39),(40,a0),(41,a1),(42,v42),(43,a2),(44,v44),(11,v44)]) g3 n34) (
JI C K (puts (Xi [a0,a1,a2]) [(6,.bool false),(12,a0),(13,v13),(14,.agg c14.toArray),(15,.agg c15.toArray),(16,.agg c16.toArray),(17,a1),(18,v18),(19,.agg c19.toArray),(20,a2),(21,v21),(22,.agg c22.toArray),(23,.agg c23.toArray),(24,.agg c24.toArray),(25,.agg c25.toArray),(26,.agg c26.toArray),(27,.agg c27.toArray),(28,.agg c28.toArray),(29,.agg c29.toArray),(30,(.slice (some ⟨l30,0,none⟩) 12 12)),(31,v31),(7,v31),(33,v31),(34,v34),(32,v34),(35,v35),(36,v36),(37,v37),(8,v35),(9,v36),(10,v37),(38,a0),(39,v39),(11,v39),(40,a0),(41,a1),(42,v42)]) g3 n34)
theorem Qbe (C:CT) (a0 a1 a2:Value) (g:G) (n:Nat) (K:Cont):XaK C a0 a1 a2 g n K=Zf Tryz.prog C J3 [a0,a1,a2] g n K:=by kernel_rfl
def XJ (C:CT) (K:Cont) (t:Env) (g:G) (n:Nat):Prop:=
C QK [t 11,.int .i64 100] g n fun v76 g15 n76=>
Zc v76 0 fun v77=>
Zc v76 1 fun v78=>
Zc v76 2 fun v79=>
Qa v79 (
Qan v77 fun v83=>
Jb .int .eql v83 (.int .i64 0) fun v84=>
Qa v84 (
Qan v78 fun v88=>
Jb .int .eql v88 (.int .i64 1) fun v89=>
Qa v89 (
Jd v78 (.int .i64 0) 5 fun v93=>
Qd v93 fun l94 o94=>
kLd g15 l94 (o94+0) fun v95=>
Jb .int .eql v95 (.int .i64 10) fun v96=>
Qa v96 (
Jd v78 (.int .i64 0) 5 fun v100=>
Qd v100 fun l101 o101=>
kLd g15 l101 (o101+1) fun v102=>
Jb .int .eql v102 (.int .i64 0) fun v103=>
Qa v103 (
C Zh [] g15 n76 fun v106 g16 n106=>
Jc K v106 g16 n106) (
Jc K (.bool false) g15 n76)) (
Jc K (.bool false) g15 n76)) (
Jc K (.bool false) g15 n76)) (
Jc K (.bool false) g15 n76)) (
Jc K (.bool false) g15 n76)
def Jp (C:CT) (K:Cont) (t:Env) (g:G) (n:Nat):Prop:=
Qe (reps 0 [.int .u64 0]) [] fun c62=>
Qp c62 .exact g n fun l62 g10 n62=>
Qx (.slice (some ⟨l62,0,none⟩) 0 0) (t 7) 1 8 g10 n62 fun v64 g11 n64=>
Qe [.int .i64 0,.int .i64 0,.int .i64 0,.int .i64 0,.int .i64 0] [(0,none,.int .i64 21),(1,none,.int .i64 1)] fun c65=>
Qe (reps 1 [.int .i64 0,.int .i64 0,.int .i64 0,.int .i64 0,.int .i64 0]) [(0,some 5,.agg c65.toArray)] fun c66=>
Qp c66 .exact g11 n64 fun l66 g12 n66=>
C Jj [(.slice (some ⟨l66,0,none⟩) 1 1)] g12 n66 fun v67 g13 n67=>
Qx v64 v67 1 8 g13 n67 fun v68 g14 n68=>
Jb .int .quo (t 0) (.int .u8 6) fun v70=>
Jb .int .rem v70 (.int .u8 3) fun v71=>
Jb .int .eql v71 (.int .u8 2) fun v72=>
Qa v72 (
XJ C K (puts t [(62,(.slice (some ⟨l62,0,none⟩) 0 0)),(63,t 7),(64,v64),(65,.agg c65.toArray),(66,(.slice (some ⟨l66,0,none⟩) 1 1)),(67,v67),(68,v68),(11,v68),(69,t 0),(70,v70),(71,v71),(72,v72),(73,t 7),(11,t 7)]) g14 n68) (
XJ C K (puts t [(62,(.slice (some ⟨l62,0,none⟩) 0 0)),(63,t 7),(64,v64),(65,.agg c65.toArray),(66,(.slice (some ⟨l66,0,none⟩) 1 1)),(67,v67),(68,v68),(11,v68),(69,t 0),(70,v70),(71,v71),(72,v72)]) g14 n68)
def J4 (C:CT) (K:Cont) (t:Env) (g:G) (n:Nat):Prop:=
Jb .int .quo (t 0) (.int .u8 6) fun v28=>
Jb .int .rem v28 (.int .u8 3) fun v29=>
Jb .int .eql v29 (.int .u8 0) fun v31=>
Qa v31 (
C Xag [t 1] g n fun v34 g4 n34=>
Zc v34 0 fun v35=>
Zc v34 1 fun v36=>
Qp [.int .i64 0,.int .i64 0,.int .i64 0,.int .i64 0,.int .i64 0] .exact g4 n34 fun l9 g5 n9=>
Zm v35 fun cg6=>
cg6.length=5∧Js g5 l9 0 cg6 fun g6=>
Jb .int .eql v36 (.int .i64 0) fun v38=>
Qa v38 (
C Zh [] g6 n9 fun v39 g7 n39=>
Jc K v39 g7 n39) (
Qe (reps 1 [.int .u64 0]) [(0,none,t 1)] fun c42=>
Qp c42 .exact g6 n9 fun l42 g8 n42=>
Qx (t 7) (.slice (some ⟨l42,0,none⟩) 1 1) 1 8 g8 n42 fun v43 g9 n43=>
Jp C K (puts t [(27,t 0),(28,v28),(29,v29),(31,v31),(30,v31),(33,t 1),(34,v34),(32,v34),(35,v35),(36,v36),(9,ptr l9 0),(10,v36),(37,v36),(38,v38),(40,t 7),(41,t 1),(42,(.slice (some ⟨l42,0,none⟩) 1 1)),(43,v43),(7,v43)]) g9 n43)) (
Jb .int .eql v29 (.int .u8 1) fun v45=>
Qa v45 (
Jb .int .rem (t 2) (.int .u16 8) fun v47=>
Jb .int .eql v47 (.int .u16 0) fun v48=>
Qa v48 (
Jb .int .lss (t 2) (.int .u16 384) fun v51=>
Qa v51 (
C Zh [] g n fun v53 g17 n53=>
Jc K v53 g17 n53) (
ZO .i64 (t 2) fun v56=>
Qe [.int .i64 0,.int .i64 0,.int .i64 0,.int .i64 0,.int .i64 0] [(0,none,.int .i64 1),(1,none,.int .i64 1),(4,none,v56)] fun c57=>
Qe [.int .i64 0,.int .i64 0,.int .i64 0,.int .i64 0,.int .i64 0] [(0,none,.int .i64 9),(1,none,.int .i64 2),(2,none,.int .i64 1)] fun c58=>
Qe (reps 2 [.int .i64 0,.int .i64 0,.int .i64 0,.int .i64 0,.int .i64 0]) [(0,some 5,.agg c57.toArray),(5,some 5,.agg c58.toArray)] fun c59=>
Qp c59 .exact g n fun l59 g18 n59=>
C Jj [(.slice (some ⟨l59,0,none⟩) 2 2)] g18 n59 fun v60 g19 n60=>
Qx (t 7) v60 1 8 g19 n60 fun v61 g20 n61=>
Jp C K (puts t [(27,t 0),(28,v28),(29,v29),(31,v31),(30,v31),(45,v45),(44,v45),(46,t 2),(47,v47),(48,v48),(49,.bool true),(50,t 2),(51,v51),(52,v51),(54,t 7),(55,t 2),(56,v56),(57,.agg c57.toArray),(58,.agg c58.toArray),(59,(.slice (some ⟨l59,0,none⟩) 2 2)),(60,v60),(61,v61),(7,v61)]) g20 n61)) (
ZO .i64 (t 2) fun v56=>
Qe [.int .i64 0,.int .i64 0,.int .i64 0,.int .i64 0,.int .i64 0] [(0,none,.int .i64 1),(1,none,.int .i64 1),(4,none,v56)] fun c57=>
Qe [.int .i64 0,.int .i64 0,.int .i64 0,.int .i64 0,.int .i64 0] [(0,none,.int .i64 9),(1,none,.int .i64 2),(2,none,.int .i64 1)] fun c58=>
Qe (reps 2 [.int .i64 0,.int .i64 0,.int .i64 0,.int .i64 0,.int .i64 0]) [(0,some 5,.agg c57.toArray),(5,some 5,.agg c58.toArray)] fun c59=>
Qp c59 .exact g n fun l59 g21 n59=>
C Jj [(.slice (some ⟨l59,0,none⟩) 2 2)] g21 n59 fun v60 g22 n60=>
Qx (t 7) v60 1 8 g22 n60 fun v61 g23 n61=>
Jp C K (puts t [(27,t 0),(28,v28),(29,v29),(31,v31),(30,v31),(45,v45),(44,v45),(46,t 2),(47,v47),(48,v48),(49,.bool false),(50,undef),(51,undef),(52,.bool false),(54,t 7),(55,t 2),(56,v56),(57,.agg c57.toArray),(58,.agg c58.toArray),(59,(.slice (some ⟨l59,0,none⟩) 2 2)),(60,v60),(61,v61),(7,v61)]) g23 n61)) (
Jp C K (puts t [(27,t 0),(28,v28),(29,v29),(31,v31),(30,v31),(45,v45),(44,v45)]) g n))
def Qau (C:CT) (K:Cont) (I_l1:Qm) (t:Env) (g:G) (n:Nat):Prop:=
ZO .i64 (t 0) fun v17=>
Jb .int .rem v17 (.int .i64 6) fun v18=>
Jb .int .lss (t 8) v18 fun v19=>
Qa v19 (
Qe [.int .i64 0,.int .i64 0,.int .i64 0,.int .i64 0,.int .i64 0] [(0,none,.int .i64 0)] fun c23=>
Qe (reps 1 [.int .i64 0,.int .i64 0,.int .i64 0,.int .i64 0,.int .i64 0]) [(0,some 5,.agg c23.toArray)] fun c24=>
Qp c24 .exact g n fun l24 g1 n24=>
C Jj [(.slice (some ⟨l24,0,none⟩) 1 1)] g1 n24 fun v25 g2 n25=>
Qx (t 7) v25 1 8 g2 n25 fun v26 g3 n26=>
Jb .int .add (t 8) (.int .i64 1) fun v21=>
I_l1 (puts t [(15,t 8),(16,t 0),(17,v17),(18,v18),(19,v19),(22,t 7),(23,.agg c23.toArray),(24,(.slice (some ⟨l24,0,none⟩) 1 1)),(25,v25),(26,v26),(7,v26),(20,t 8),(21,v21),(8,v21)]) g3 n26) (
J4 C K (puts t [(15,t 8),(16,t 0),(17,v17),(18,v18),(19,v19)]) g n)
def JaK (C:CT) (a0 a1 a2:Value) (g:G) (n:Nat) (K:Cont):Prop:=
lfp (Qau C K) (puts (Xi [a0,a1,a2]) [(6,.bool false),(7,.slice none 0 0),(8,.int .i64 0)]) g n
theorem Xbf (C:CT) (a0 a1 a2:Value) (g:G) (n:Nat) (K:Cont):JaK C a0 a1 a2 g n K=Zf Tryz.prog C X3 [a0,a1,a2] g n K:=by kernel_rfl
def Zal (C:CT) (K:Cont) (t:Env) (g:G) (n:Nat):Prop:=
Qd (t 2) fun l46 o46=>
kLd g l46 (o46+5) fun v47=>
C QcL [t 6,v47] g n fun v48 g6 n48=>
Zc v48 0 fun v49=>
Zc v48 1 fun v50=>
Jb .int .neq v50 (.int .i64 0) fun v52=>
Qa v52 (
Jc K (.tuple #[.pointer none,v50]) g6 n48) (
Qd (t 2) fun l54 o54=>
Qn g6 l54 o54 7 fun c54=>
Qe [.int .i64 0,.int .i64 0,.int .i64 0,.int .i64 0,.int .i64 0,.int .i64 0,.int .i64 0,.slice none 0 0,.slice none 0 0,.pointer none,.int .i64 0] [(0,some 7,.agg c54.toArray),(9,none,v49)] fun c56=>
Zm (.agg c56.toArray) fun c57=>
Qp c57 .exact g6 n48 fun l57 g7 n57=>
C Xas [ptr l57 0] g7 n57 fun v59 g8 n59=>
Jc K (.tuple #[ptr l57 0,.int .i64 0]) g8 n59)
def ZeZ (C:CT) (a0 a1:Value) (g:G) (n:Nat) (K:Cont):Prop:=
Zm a0 fun c2=>
Qp c2 .exact g n fun l2 g1 n2=>
Qn g1 l2 0 7 fun c10=>
C QbQ [.agg c10.toArray] g1 n2 fun v11 g2 n11=>
kUn .not v11 fun v12=>
Qa v12 (
Jc K (.tuple #[.pointer none,.int .i64 1]) g2 n11) (
Qan a1 fun v15=>
Jb .int .neq v15 (.int .i64 0) fun v16=>
Qa v16 (
Qan a1 fun v19=>
kLd g2 l2 (0+1) fun v21=>
Jb .int .neq v19 v21 fun v22=>
Qa v22 (
Jc K (.tuple #[.pointer none,.int .i64 1]) g2 n11) (
kLd g2 l2 (0+1) fun v27=>
kLd g2 l2 (0+2) fun v29=>
C Xbh [v27,v29] g2 n11 fun v30 g3 n30=>
Zc v30 0 fun v31=>
Zc v30 1 fun v32=>
Jb .int .neq v32 (.int .i64 0) fun v34=>
Qa v34 (
Jc K (.tuple #[.pointer none,v32]) g3 n30) (
Qan a1 fun v37=>
Jb .int .gtr v37 (.int .i64 0) fun v38=>
Qa v38 (
C XY [v31,a1] g3 n30 fun v41 g4 n41=>
C Qah [v31] g4 n41 fun v43 g5 n43=>
Zal C K (puts (Xi [a0,a1]) [(2,ptr l2 0),(4,.pointer none),(5,.int .i64 0),(10,.agg c10.toArray),(11,v11),(12,v12),(13,.bool false),(14,a1),(15,v15),(16,v16),(17,.bool true),(18,a1),(19,v19),(20,(ptr l2 (0+1))),(21,v21),(22,v22),(23,v22),(24,v22),(26,(ptr l2 (0+1))),(27,v27),(28,(ptr l2 (0+2))),(29,v29),(30,v30),(25,v30),(31,v31),(32,v32),(6,v31),(7,v32),(33,v32),(34,v34),(36,a1),(37,v37),(38,v38),(39,v31),(40,a1),(41,v41),(42,v31),(43,v43)]) g5 n43) (
Zal C K (puts (Xi [a0,a1]) [(2,ptr l2 0),(4,.pointer none),(5,.int .i64 0),(10,.agg c10.toArray),(11,v11),(12,v12),(13,.bool false),(14,a1),(15,v15),(16,v16),(17,.bool true),(18,a1),(19,v19),(20,(ptr l2 (0+1))),(21,v21),(22,v22),(23,v22),(24,v22),(26,(ptr l2 (0+1))),(27,v27),(28,(ptr l2 (0+2))),(29,v29),(30,v30),(25,v30),(31,v31),(32,v32),(6,v31),(7,v32),(33,v32),(34,v34),(36,a1),(37,v37),(38,v38)]) g3 n30)))) (
kLd g2 l2 (0+1) fun v27=>
kLd g2 l2 (0+2) fun v29=>
C Xbh [v27,v29] g2 n11 fun v30 g9 n30=>
Zc v30 0 fun v31=>
Zc v30 1 fun v32=>
Jb .int .neq v32 (.int .i64 0) fun v34=>
Qa v34 (
Jc K (.tuple #[.pointer none,v32]) g9 n30) (
Qan a1 fun v37=>
Jb .int .gtr v37 (.int .i64 0) fun v38=>
Qa v38 (
C XY [v31,a1] g9 n30 fun v41 g10 n41=>
C Qah [v31] g10 n41 fun v43 g11 n43=>
Zal C K (puts (Xi [a0,a1]) [(2,ptr l2 0),(4,.pointer none),(5,.int .i64 0),(10,.agg c10.toArray),(11,v11),(12,v12),(13,.bool false),(14,a1),(15,v15),(16,v16),(17,.bool false),(18,undef),(19,undef),(20,undef),(21,undef),(22,undef),(23,.bool false),(24,.bool false),(26,(ptr l2 (0+1))),(27,v27),(28,(ptr l2 (0+2))),(29,v29),(30,v30),(25,v30),(31,v31),(32,v32),(6,v31),(7,v32),(33,v32),(34,v34),(36,a1),(37,v37),(38,v38),(39,v31),(40,a1),(41,v41),(42,v31),(43,v43)]) g11 n43) (
Zal C K (puts (Xi [a0,a1]) [(2,ptr l2 0),(4,.pointer none),(5,.int .i64 0),(10,.agg c10.toArray),(11,v11),(12,v12),(13,.bool false),(14,a1),(15,v15),(16,v16),(17,.bool false),(18,undef),(19,undef),(20,undef),(21,undef),(22,undef),(23,.bool false),(24,.bool false),(26,(ptr l2 (0+1))),(27,v27),(28,(ptr l2 (0+2))),(29,v29),(30,v30),(25,v30),(31,v31),(32,v32),(6,v31),(7,v32),(33,v32),(34,v34),(36,a1),(37,v37),(38,v38)]) g9 n30))))
theorem JeH (C:CT) (a0 a1:Value) (g:G) (n:Nat) (K:Cont):ZeZ C a0 a1 g n K=Zf Tryz.prog C ZaO [a0,a1] g n K:=by kernel_rfl
def Xbc (C:CT) (g:G) (n:Nat) (K:Cont):Prop:=
Qp [.int .i64 0,.int .i64 0,.int .i64 0,.int .i64 0,.int .i64 0,.int .i64 0,.int .i64 0] .exact g n fun l0 g1 n0=>
Qe [.int .i64 0,.int .i64 0,.int .i64 0,.int .i64 0,.int .i64 0,.int .i64 0,.int .i64 0] [(0,none,.int .i64 2),(1,none,.int .i64 6),(2,none,.int .i64 1),(3,none,.int .i64 1),(4,none,.int .i64 2),(5,none,.int .i64 2),(6,none,.int .i64 2)] fun c1=>
Zm (.agg c1.toArray) fun cg2=>
cg2.length=7∧Js g1 l0 0 cg2 fun g2=>
Qn g2 l0 0 7 fun r0=>
Jc K (.agg r0.toArray) g2 n0
theorem ZbN (C:CT) (g:G) (n:Nat) (K:Cont):Xbc C g n K=Zf Tryz.prog C XB [] g n K:=by kernel_rfl
def Xc9 (C:CT) (K:Cont) (t:Env) (g:G) (n:Nat):Prop:=
Jc K (.tuple #[t 10,.int .i64 0]) g n
def Qc5 (C:CT) (K:Cont) (I_l1:Qm) (t:Env) (g:G) (n:Nat):Prop:=
Jb .int .lss (t 39) (t 38) fun v40=>
Qa v40 (
Jd (t 37) (t 39) 1 fun v42=>
Qd v42 fun l43 o43=>
kLd g l43 o43 fun v43=>
Qg (t 10) fun v45=>
Qd v45 fun l46 o46=>
kLd g l46 (o46+10) fun v47=>
Jd v47 (t 39) 10 fun v50=>
Qd v50 fun l51 o51=>
kSt g l51 (o51+3) v43 fun g4=>
Jb .int .add (t 39) (.int .i64 1) fun v52=>
I_l1 (puts t [(40,v40),(41,t 39),(42,v42),(43,v43),(11,t 39),(12,v43),(44,t 10),(45,v45),(46,(ptr l46 (o46+10))),(47,v47),(48,t 39),(49,v43),(50,v50),(51,(ptr l51 (o51+3))),(52,v52),(39,v52)]) g4 n) (
Xc9 C K (puts t [(40,v40)]) g n)
def JdW (C:CT) (a0 a1 a2:Value) (g:G) (n:Nat) (K:Cont):Prop:=
Jb .int .lss a0 (.int .i64 0) fun v14=>
Qa v14 (
Jc K (.tuple #[.pointer none,.int .i64 1]) g n) (
Jb .int .geq a0 (.int .i64 8) fun v17=>
Qa v17 (
Jc K (.tuple #[.pointer none,.int .i64 1]) g n) (
C Jcg [a1] g n fun v21 g1 n21=>
Zc v21 0 fun v22=>
Zc v21 1 fun v23=>
Jb .int .neq v23 (.int .i64 0) fun v25=>
Qa v25 (
Jc K (.tuple #[.pointer none,v23]) g1 n21) (
Qan a2 fun v28=>
Jb .int .gtr v28 (.int .i64 4096) fun v29=>
Qa v29 (
Jc K (.tuple #[.pointer none,.int .i64 3]) g1 n21) (
Qan a2 fun v33=>
Zb1 v33 v33 [.int .u32 0,.int .i32 0,.int .u32 0,.int .u64 0,.int .i64 0,.int .i64 0,.int .i64 0,.int .i64 0,.int .i64 0,.bool false] 72 g1 n21 fun v34 g2 n34=>
Qe [.int .i64 0,.int .u64 0,.int .u64 0,.int .u64 0,.int .u64 0,.int .u64 0,.int .u64 0,.int .u64 0,.int .u64 0,.int .i64 0,.slice none 0 0,.pointer none,.int .i64 0,.bool false] [(0,none,a0),(11,none,v22),(13,none,.bool true),(10,none,v34)] fun c35=>
Zm (.agg c35.toArray) fun c36=>
Qp c36 .exact g2 n34 fun l36 g3 n36=>
Qan a2 fun v38=>
lfp (Qc5 C K) (puts (Xi [a0,a1,a2]) [(6,.pointer none),(7,.int .i64 0),(13,a0),(14,v14),(15,.bool false),(16,a0),(17,v17),(18,v17),(20,a1),(21,v21),(19,v21),(22,v22),(23,v23),(8,v22),(9,v23),(24,v23),(25,v25),(27,a2),(28,v28),(29,v29),(30,a0),(31,v22),(32,a2),(33,v33),(34,v34),(35,.agg c35.toArray),(36,ptr l36 0),(10,ptr l36 0),(37,a2),(38,v38),(39,.int .i64 0)]) g3 n36))))
theorem Zc6 (C:CT) (a0 a1 a2:Value) (g:G) (n:Nat) (K:Cont):JdW C a0 a1 a2 g n K=Zf Tryz.prog C Qaz [a0,a1,a2] g n K:=by kernel_rfl
def JaW (C:CT) (K:Cont) (I_l1:Qm) (t:Env) (g:G) (n:Nat):Prop:=
Qan (t 0) fun v9=>
Jb .int .lss (t 4) v9 fun v10=>
Qa v10 (
Jd (t 0) (t 4) 5 fun v16=>
Qd v16 fun l17 o17=>
Qn g l17 o17 5 fun c17=>
C XG [.agg c17.toArray] g n fun v18 g1 n18=>
Zc v18 0 fun v19=>
Zc v18 1 fun v20=>
Qe (reps 1 [.int .u64 0]) [(0,none,v19)] fun c23=>
Qp c23 .exact g1 n18 fun l23 g2 n23=>
Qx (t 3) (.slice (some ⟨l23,0,none⟩) 1 1) 1 8 g2 n23 fun v24 g3 n24=>
Jb .int .add (t 4) (.int .i64 1) fun v12=>
I_l1 (puts t [(7,t 4),(8,t 0),(9,v9),(10,v10),(14,t 0),(15,t 4),(16,v16),(17,.agg c17.toArray),(18,v18),(13,v18),(19,v19),(20,v20),(5,v19),(6,v20),(21,t 3),(22,v19),(23,(.slice (some ⟨l23,0,none⟩) 1 1)),(24,v24),(3,v24),(11,t 4),(12,v12),(4,v12)]) g3 n24) (
Jc K (t 3) g n)
def Jbl (C:CT) (a0:Value) (g:G) (n:Nat) (K:Cont):Prop:=
lfp (JaW C K) (puts (Xi [a0]) [(2,.slice none 0 0),(3,.slice none 0 0),(4,.int .i64 0)]) g n
theorem Xb4 (C:CT) (a0:Value) (g:G) (n:Nat) (K:Cont):Jbl C a0 g n K=Zf Tryz.prog C Jj [a0] g n K:=by kernel_rfl
def JQ (C:CT) (K:Cont) (t:Env) (g:G) (n:Nat):Prop:=
kUn .not (t 6) fun v52=>
Qa v52 (
C Zao [t 5] g n fun v54 g4 n54=>
Qg (t 5) fun v56=>
Qd v56 fun l57 o57=>
kLd g4 l57 (o57+7) fun v58=>
Jc K v58 g4 n54) (
C Za1 [t 5] g n fun v60 g5 n60=>
Qg (t 5) fun v62=>
Qd v62 fun l63 o63=>
kLd g5 l63 (o63+7) fun v64=>
Jc K v64 g5 n60)
def Jb8 (C:CT) (a0 a1:Value) (g:G) (n:Nat) (K:Cont):Prop:=
Jb .ptr .eql a0 (.pointer none) fun v8=>
Qa v8 (
Jc K (.slice none 0 0) g n) (
Jb .ptr .eql a1 (.pointer none) fun v11=>
Qa v11 (
Jc K (.slice none 0 0) g n) (
Qg a0 fun v15=>
Qd v15 fun l16 o16=>
kLd g l16 (o16+13) fun v17=>
kUn .not v17 fun v18=>
Qa v18 (
Jc K (.slice none 0 0) g n) (
Qe [.pointer none,.pointer none,.int .i64 0,.int .i64 0,.int .i64 0,.int .i64 0,.int .i64 0,.slice none 0 0] [(0,none,a0),(1,none,a1)] fun c22=>
Zm (.agg c22.toArray) fun c23=>
Qp c23 .exact g n fun l23 g1 n23=>
Qg a0 fun v25=>
Qd v25 fun l26 o26=>
kLd g1 l26 (o26+9) fun v27=>
Qg a0 fun v29=>
Qd v29 fun l30 o30=>
kLd g1 l30 (o30+10) fun v31=>
Qan v31 fun v32=>
Jb .int .lss v27 v32 fun v33=>
Qa v33 (
Qg a0 fun v38=>
Qd v38 fun l39 o39=>
kLd g1 l39 (o39+10) fun v40=>
Qg a0 fun v42=>
Qd v42 fun l43 o43=>
kLd g1 l43 (o43+9) fun v44=>
Jd v40 v44 10 fun v45=>
C ZaV [v45] g1 n23 fun v46 g2 n46=>
Zc v46 0 fun v47=>
Zc v46 1 fun v48=>
Zm v47 fun cg3=>
cg3.length=5∧Js g2 l23 (0+2) cg3 fun g3=>
JQ C K (puts (Xi [a0,a1]) [(4,.slice none 0 0),(7,a0),(8,v8),(9,.bool false),(10,a1),(11,v11),(12,v11),(13,.bool false),(14,a0),(15,v15),(16,(ptr l16 (o16+13))),(17,v17),(18,v18),(19,v18),(20,a0),(21,a1),(22,.agg c22.toArray),(23,ptr l23 0),(5,ptr l23 0),(24,a0),(25,v25),(26,(ptr l26 (o26+9))),(27,v27),(28,a0),(29,v29),(30,(ptr l30 (o30+10))),(31,v31),(32,v32),(33,v33),(6,v33),(34,v33),(36,ptr l23 0),(37,a0),(38,v38),(39,(ptr l39 (o39+10))),(40,v40),(41,a0),(42,v42),(43,(ptr l43 (o43+9))),(44,v44),(45,v45),(46,v46),(35,v46),(47,v47),(48,v48),(49,ptr l23 0),(50,(ptr l23 (0+2))),(6,v48)]) g3 n46) (
JQ C K (puts (Xi [a0,a1]) [(4,.slice none 0 0),(7,a0),(8,v8),(9,.bool false),(10,a1),(11,v11),(12,v11),(13,.bool false),(14,a0),(15,v15),(16,(ptr l16 (o16+13))),(17,v17),(18,v18),(19,v18),(20,a0),(21,a1),(22,.agg c22.toArray),(23,ptr l23 0),(5,ptr l23 0),(24,a0),(25,v25),(26,(ptr l26 (o26+9))),(27,v27),(28,a0),(29,v29),(30,(ptr l30 (o30+10))),(31,v31),(32,v32),(33,v33),(6,v33),(34,v33)]) g1 n23))))
theorem XcI (C:CT) (a0 a1:Value) (g:G) (n:Nat) (K:Cont):Jb8 C a0 a1 g n K=Zf Tryz.prog C Jl [a0,a1] g n K:=by kernel_rfl
def QbS (C:CT) (a0:Value) (g:G) (n:Nat) (K:Cont):Prop:=
Jb .ptr .eql a0 (.pointer none) fun v4=>
Qa v4 (
Jc K (.int .i64 0) g n) (
Qg a0 fun v6=>
Qd v6 fun l7 o7=>
kLd g l7 (o7+9) fun v8=>
Jc K v8 g n)
theorem Jcl (C:CT) (a0:Value) (g:G) (n:Nat) (K:Cont):QbS C a0 g n K=Zf Tryz.prog C Jah [a0] g n K:=by kernel_rfl
def QbC (C:CT) (a0:Value) (g:G) (n:Nat) (K:Cont):Prop:=
Jb .ptr .eql a0 (.pointer none) fun v4=>
Qa v4 (
Jc K (.slice none 0 0) g n) (
Qg a0 fun v6=>
Qd v6 fun l7 o7=>
kLd g l7 (o7+11) fun v8=>
C XaI [v8] g n fun v9 g1 n9=>
Jc K v9 g1 n9)
theorem Zck (C:CT) (a0:Value) (g:G) (n:Nat) (K:Cont):QbC C a0 g n K=Zf Tryz.prog C Xs [a0] g n K:=by kernel_rfl
def Xai (C:CT) (K:Cont) (t:Env) (g:G) (n:Nat):Prop:=
Qg (t 7) fun v96=>
Qd v96 fun l97 o97=>
kLd g l97 (o97+7) fun v98=>
Jc K v98 g n
def Zl (C:CT) (K:Cont) (t:Env) (g:G) (n:Nat):Prop:=
Qa (t 8) (
Qg (t 0) fun v91=>
Qd v91 fun l92 o92=>
kLd g l92 (o92+11) fun v93=>
C QaI [v93] g n fun v94 g7 n94=>
Xai C K (puts t [(89,t 8),(90,t 0),(91,v91),(92,(ptr l92 (o92+11))),(93,v93),(94,v94)]) g7 n94) (
Xai C K (puts t [(89,t 8)]) g n)
def JbI (C:CT) (a0 a1:Value) (g:G) (n:Nat) (K:Cont):Prop:=
Jb .ptr .eql a0 (.pointer none) fun v10=>
Qa v10 (
Jc K (.slice none 0 0) g n) (
Jb .ptr .eql a1 (.pointer none) fun v13=>
Qa v13 (
Jc K (.slice none 0 0) g n) (
Qg a0 fun v17=>
Qd v17 fun l18 o18=>
kLd g l18 (o18+11) fun v19=>
C ZH [v19] g n fun v20 g1 n20=>
Zc v20 0 fun v21=>
Zc v20 1 fun v22=>
Qp [.int .i64 0,.int .i64 0,.int .i64 0,.int .u64 0,.bool false] .exact g1 n20 fun l5 g2 n5=>
Zm v21 fun cg3=>
cg3.length=5∧Js g2 l5 0 cg3 fun g3=>
kUn .not v22 fun v24=>
Qa v24 (
Jc K (.slice none 0 0) g3 n5) (
Qe [.pointer none,.pointer none,.int .i64 0,.int .i64 0,.int .i64 0,.int .i64 0,.int .i64 0,.slice none 0 0] [(0,none,a0),(1,none,a1)] fun c27=>
Zm (.agg c27.toArray) fun c28=>
Qp c28 .exact g3 n5 fun l28 g4 n28=>
kLd g4 l5 (0+0) fun v30=>
Jb .int .eql v30 (.int .i64 9) fun v55=>
Qa v55 (
Qg a0 fun v58=>
Qd v58 fun l59 o59=>
kLd g4 l59 (o59+0) fun v60=>
kLd g4 l5 (0+1) fun v62=>
kLd g4 l5 (0+2) fun v64=>
kLd g4 l5 (0+3) fun v66=>
C Z6 [a1,v60,v62,v64,v66] g4 n28 fun v67 g5 n67=>
Qa v67 (
kLd g5 l5 (0+1) fun v71=>
kLd g5 l5 (0+2) fun v73=>
kLd g5 l5 (0+3) fun v75=>
C Jk [ptr l28 0,.int .i64 3,v71,v73,v75] g5 n67 fun v76 g6 n76=>
Zl C K (puts (Xi [a0,a1]) [(4,.slice none 0 0),(9,a0),(10,v10),(11,.bool false),(12,a1),(13,v13),(14,v13),(16,a0),(17,v17),(18,(ptr l18 (o18+11))),(19,v19),(20,v20),(15,v20),(21,v21),(22,v22),(5,ptr l5 0),(6,v22),(23,v22),(24,v24),(25,a0),(26,a1),(27,.agg c27.toArray),(28,ptr l28 0),(7,ptr l28 0),(8,.bool false),(29,(ptr l5 (0+0))),(30,v30),(55,v55),(54,v55),(56,a1),(57,a0),(58,v58),(59,(ptr l59 (o59+0))),(60,v60),(61,(ptr l5 (0+1))),(62,v62),(63,(ptr l5 (0+2))),(64,v64),(65,(ptr l5 (0+3))),(66,v66),(67,v67),(8,v67),(68,v67),(69,ptr l28 0),(70,(ptr l5 (0+1))),(71,v71),(72,(ptr l5 (0+2))),(73,v73),(74,(ptr l5 (0+3))),(75,v75),(76,v76)]) g6 n76) (
Zl C K (puts (Xi [a0,a1]) [(4,.slice none 0 0),(9,a0),(10,v10),(11,.bool false),(12,a1),(13,v13),(14,v13),(16,a0),(17,v17),(18,(ptr l18 (o18+11))),(19,v19),(20,v20),(15,v20),(21,v21),(22,v22),(5,ptr l5 0),(6,v22),(23,v22),(24,v24),(25,a0),(26,a1),(27,.agg c27.toArray),(28,ptr l28 0),(7,ptr l28 0),(8,.bool false),(29,(ptr l5 (0+0))),(30,v30),(55,v55),(54,v55),(56,a1),(57,a0),(58,v58),(59,(ptr l59 (o59+0))),(60,v60),(61,(ptr l5 (0+1))),(62,v62),(63,(ptr l5 (0+2))),(64,v64),(65,(ptr l5 (0+3))),(66,v66),(67,v67),(8,v67),(68,v67)]) g5 n67)) (
Jb .int .eql v30 (.int .i64 12) fun v78=>
Qa v78 (
kLd g4 l5 (0+1) fun v81=>
C JL [ptr l28 0,v81,.int .i64 4] g4 n28 fun v82 g8 n82=>
Zl C K (puts (Xi [a0,a1]) [(4,.slice none 0 0),(9,a0),(10,v10),(11,.bool false),(12,a1),(13,v13),(14,v13),(16,a0),(17,v17),(18,(ptr l18 (o18+11))),(19,v19),(20,v20),(15,v20),(21,v21),(22,v22),(5,ptr l5 0),(6,v22),(23,v22),(24,v24),(25,a0),(26,a1),(27,.agg c27.toArray),(28,ptr l28 0),(7,ptr l28 0),(8,.bool false),(29,(ptr l5 (0+0))),(30,v30),(55,v55),(54,v55),(78,v78),(77,v78),(79,ptr l28 0),(80,(ptr l5 (0+1))),(81,v81),(82,v82),(8,v82)]) g8 n82) (
Jb .int .eql v30 (.int .i64 13) fun v84=>
Qa v84 (
kLd g4 l5 (0+1) fun v87=>
C JL [ptr l28 0,v87,.int .i64 5] g4 n28 fun v88 g9 n88=>
Zl C K (puts (Xi [a0,a1]) [(4,.slice none 0 0),(9,a0),(10,v10),(11,.bool false),(12,a1),(13,v13),(14,v13),(16,a0),(17,v17),(18,(ptr l18 (o18+11))),(19,v19),(20,v20),(15,v20),(21,v21),(22,v22),(5,ptr l5 0),(6,v22),(23,v22),(24,v24),(25,a0),(26,a1),(27,.agg c27.toArray),(28,ptr l28 0),(7,ptr l28 0),(8,.bool false),(29,(ptr l5 (0+0))),(30,v30),(55,v55),(54,v55),(78,v78),(77,v78),(84,v84),(83,v84),(85,ptr l28 0),(86,(ptr l5 (0+1))),(87,v87),(88,v88),(8,v88)]) g9 n88) (
kLd g4 l5 (0+4) fun v32=>
Qa v32 (
Qg a0 fun v35=>
Qd v35 fun l36 o36=>
kLd g4 l36 (o36+12) fun v37=>
Jb .int .eql v37 (.int .i64 0) fun v38=>
kLd g4 l5 (0+4) fun v41=>
kUn .not v41 fun v42=>
Qa v42 (
kLd g4 l5 (0+1) fun v46=>
C JL [ptr l28 0,v46,.int .i64 5] g4 n28 fun v47 g10 n47=>
Qa v47 (
Qg a0 fun v50=>
Qd v50 fun l51 o51=>
kLd g10 l51 (o51+11) fun v52=>
C Zae [v52] g10 n47 fun v53 g11 n53=>
Zl C K (puts (Xi [a0,a1]) [(4,.slice none 0 0),(9,a0),(10,v10),(11,.bool false),(12,a1),(13,v13),(14,v13),(16,a0),(17,v17),(18,(ptr l18 (o18+11))),(19,v19),(20,v20),(15,v20),(21,v21),(22,v22),(5,ptr l5 0),(6,v22),(23,v22),(24,v24),(25,a0),(26,a1),(27,.agg c27.toArray),(28,ptr l28 0),(7,ptr l28 0),(8,.bool false),(29,(ptr l5 (0+0))),(30,v30),(55,v55),(54,v55),(78,v78),(77,v78),(84,v84),(83,v84),(31,(ptr l5 (0+4))),(32,v32),(33,.bool true),(34,a0),(35,v35),(36,(ptr l36 (o36+12))),(37,v37),(38,v38),(39,v38),(8,v38),(40,(ptr l5 (0+4))),(41,v41),(42,v42),(43,.bool true),(44,ptr l28 0),(45,(ptr l5 (0+1))),(46,v46),(47,v47),(48,v47),(49,a0),(50,v50),(51,(ptr l51 (o51+11))),(52,v52),(53,v53)]) g11 n53) (
Zl C K (puts (Xi [a0,a1]) [(4,.slice none 0 0),(9,a0),(10,v10),(11,.bool false),(12,a1),(13,v13),(14,v13),(16,a0),(17,v17),(18,(ptr l18 (o18+11))),(19,v19),(20,v20),(15,v20),(21,v21),(22,v22),(5,ptr l5 0),(6,v22),(23,v22),(24,v24),(25,a0),(26,a1),(27,.agg c27.toArray),(28,ptr l28 0),(7,ptr l28 0),(8,.bool false),(29,(ptr l5 (0+0))),(30,v30),(55,v55),(54,v55),(78,v78),(77,v78),(84,v84),(83,v84),(31,(ptr l5 (0+4))),(32,v32),(33,.bool true),(34,a0),(35,v35),(36,(ptr l36 (o36+12))),(37,v37),(38,v38),(39,v38),(8,v38),(40,(ptr l5 (0+4))),(41,v41),(42,v42),(43,.bool true),(44,ptr l28 0),(45,(ptr l5 (0+1))),(46,v46),(47,v47),(48,v47)]) g10 n47)) (
Zl C K (puts (Xi [a0,a1]) [(4,.slice none 0 0),(9,a0),(10,v10),(11,.bool false),(12,a1),(13,v13),(14,v13),(16,a0),(17,v17),(18,(ptr l18 (o18+11))),(19,v19),(20,v20),(15,v20),(21,v21),(22,v22),(5,ptr l5 0),(6,v22),(23,v22),(24,v24),(25,a0),(26,a1),(27,.agg c27.toArray),(28,ptr l28 0),(7,ptr l28 0),(8,.bool false),(29,(ptr l5 (0+0))),(30,v30),(55,v55),(54,v55),(78,v78),(77,v78),(84,v84),(83,v84),(31,(ptr l5 (0+4))),(32,v32),(33,.bool true),(34,a0),(35,v35),(36,(ptr l36 (o36+12))),(37,v37),(38,v38),(39,v38),(8,v38),(40,(ptr l5 (0+4))),(41,v41),(42,v42),(43,.bool false),(44,undef),(45,undef),(46,undef),(47,undef),(48,.bool false)]) g4 n28)) (
kLd g4 l5 (0+4) fun v41=>
kUn .not v41 fun v42=>
Qa v42 (
kLd g4 l5 (0+1) fun v46=>
C JL [ptr l28 0,v46,.int .i64 5] g4 n28 fun v47 g12 n47=>
Qa v47 (
Qg a0 fun v50=>
Qd v50 fun l51 o51=>
kLd g12 l51 (o51+11) fun v52=>
C Zae [v52] g12 n47 fun v53 g13 n53=>
Zl C K (puts (Xi [a0,a1]) [(4,.slice none 0 0),(9,a0),(10,v10),(11,.bool false),(12,a1),(13,v13),(14,v13),(16,a0),(17,v17),(18,(ptr l18 (o18+11))),(19,v19),(20,v20),(15,v20),(21,v21),(22,v22),(5,ptr l5 0),(6,v22),(23,v22),(24,v24),(25,a0),(26,a1),(27,.agg c27.toArray),(28,ptr l28 0),(7,ptr l28 0),(8,.bool false),(29,(ptr l5 (0+0))),(30,v30),(55,v55),(54,v55),(78,v78),(77,v78),(84,v84),(83,v84),(31,(ptr l5 (0+4))),(32,v32),(33,.bool false),(34,undef),(35,undef),(36,undef),(37,undef),(38,undef),(39,.bool false),(8,.bool false),(40,(ptr l5 (0+4))),(41,v41),(42,v42),(43,.bool true),(44,ptr l28 0),(45,(ptr l5 (0+1))),(46,v46),(47,v47),(48,v47),(49,a0),(50,v50),(51,(ptr l51 (o51+11))),(52,v52),(53,v53)]) g13 n53) (
Zl C K (puts (Xi [a0,a1]) [(4,.slice none 0 0),(9,a0),(10,v10),(11,.bool false),(12,a1),(13,v13),(14,v13),(16,a0),(17,v17),(18,(ptr l18 (o18+11))),(19,v19),(20,v20),(15,v20),(21,v21),(22,v22),(5,ptr l5 0),(6,v22),(23,v22),(24,v24),(25,a0),(26,a1),(27,.agg c27.toArray),(28,ptr l28 0),(7,ptr l28 0),(8,.bool false),(29,(ptr l5 (0+0))),(30,v30),(55,v55),(54,v55),(78,v78),(77,v78),(84,v84),(83,v84),(31,(ptr l5 (0+4))),(32,v32),(33,.bool false),(34,undef),(35,undef),(36,undef),(37,undef),(38,undef),(39,.bool false),(8,.bool false),(40,(ptr l5 (0+4))),(41,v41),(42,v42),(43,.bool true),(44,ptr l28 0),(45,(ptr l5 (0+1))),(46,v46),(47,v47),(48,v47)]) g12 n47)) (
Zl C K (puts (Xi [a0,a1]) [(4,.slice none 0 0),(9,a0),(10,v10),(11,.bool false),(12,a1),(13,v13),(14,v13),(16,a0),(17,v17),(18,(ptr l18 (o18+11))),(19,v19),(20,v20),(15,v20),(21,v21),(22,v22),(5,ptr l5 0),(6,v22),(23,v22),(24,v24),(25,a0),(26,a1),(27,.agg c27.toArray),(28,ptr l28 0),(7,ptr l28 0),(8,.bool false),(29,(ptr l5 (0+0))),(30,v30),(55,v55),(54,v55),(78,v78),(77,v78),(84,v84),(83,v84),(31,(ptr l5 (0+4))),(32,v32),(33,.bool false),(34,undef),(35,undef),(36,undef),(37,undef),(38,undef),(39,.bool false),(8,.bool false),(40,(ptr l5 (0+4))),(41,v41),(42,v42),(43,.bool false),(44,undef),(45,undef),(46,undef),(47,undef),(48,.bool false)]) g4 n28))))))))
theorem Jcr (C:CT) (a0 a1:Value) (g:G) (n:Nat) (K:Cont):JbI C a0 a1 g n K=Zf Tryz.prog C Qz [a0,a1] g n K:=by kernel_rfl
def Zb9 (C:CT) (a0 a1:Value) (g:G) (n:Nat) (K:Cont):Prop:=
C Xt [a0,a1] g n fun v13 g1 n13=>
Jb .ptr .eql v13 (.pointer none) fun v15=>
Qa v15 (
Jc K (.int .i64 1) g1 n13) (
Qg v13 fun v18=>
Qd v18 fun l19 o19=>
C J9 [(ptr l19 (o19+1))] g1 n13 fun v20 g2 n20=>
Zc v20 0 fun v21=>
Zc v20 1 fun v22=>
Qp [.int .i64 0,.int .i64 0,.bool false,.bool false,.int .u64 0,.int .u64 0,.int .u64 0,.int .u64 0,.int .u64 0,.int .u64 0,.int .u64 0,.int .u64 0] .exact g2 n20 fun l6 g3 n6=>
Zm v21 fun cg4=>
cg4.length=12∧Js g3 l6 0 cg4 fun g4=>
kUn .not v22 fun v25=>
Qa v25 (
Jc K (.int .i64 14) g4 n6) (
Qg a0 fun v28=>
Qd v28 fun l29 o29=>
kLd g4 l29 (o29+8) fun v30=>
kLd g4 l6 (0+1) fun v32=>
Jd v30 v32 15 fun v33=>
Qd v33 fun l34 o34=>
kLd g4 l34 (o34+12) fun v35=>
Jb .int .neq v35 (.int .i64 0) fun v36=>
Qa v36 (
Jc K (.int .i64 15) g4 n6) (
kLd g4 l6 (0+1) fun v39=>
C QaB [a0,v39] g4 n6 fun v40 g5 n40=>
Qg a0 fun v43=>
Qd v43 fun l44 o44=>
kLd g5 l44 (o44+8) fun v45=>
kLd g5 l6 (0+1) fun v47=>
Jd v45 v47 15 fun v48=>
Qd v48 fun l49 o49=>
Qn g5 l49 o49 15 fun c49=>
Qn g5 l6 0 12 fun c51=>
(C QbY [.agg c49.toArray,a1,.agg c51.toArray] g5 n40 fun v52 g6 n52=>
Zc v52 0 fun v53=>
Zc v52 1 fun v54=>
Zc v52 2 fun v55=>
Qp [.bool false,.bool false,.int .u64 0,.int .u64 0,.int .u64 0,.int .u64 0,.int .u64 0,.int .u64 0,.int .u64 0,.int .u64 0,.int .i64 0,.int .u8 0,.int .i64 0,.int .i64 0,.int .u8 0] .exact g6 n52 fun l8 g7 n8=>
(Qd (ptr l44 (o44+8)) fun l _=>g7 l=g6 l)∧(Qd (ptr l6 (0+1)) fun l _=>g7 l=g6 l)∧(Qd v48 fun l _=>g7 l=g6 l)∧(Qd (ptr l6 0) fun l _=>g7 l=g6 l)∧Zm v53 fun cg8=>
cg8.length=15∧Js g7 l8 0 cg8 fun g8=>
Jb .int .neq v55 (.int .i64 0) fun v57=>
Qa v57 (
Jc K v55 g8 n8) (
Qg v13 fun v60=>
Qd v60 fun l61 o61=>
C Zw [(ptr l61 (o61+1))] g8 n8 fun v62 g9 n62=>
Qg a0 fun v64=>
Qd v64 fun l65 o65=>
kLd g9 l65 (o65+8) fun v66=>
kLd g9 l6 (0+1) fun v68=>
Qn g9 l8 0 15 fun c69=>
Jd v66 v68 15 fun v70=>
Qd v70 fun lg10 og10=>
Zm (.agg c69.toArray) fun cg10=>
cg10.length=15∧Js g9 lg10 og10 cg10 fun g10=>
kLd g10 l6 (0+1) fun v74=>
C Zp [a0,v54,v74] g10 n62 fun v75 g11 n75=>
Jc K (.int .i64 0) g11 n75))∧(Qp [.bool false,.bool false,.int .u64 0,.int .u64 0,.int .u64 0,.int .u64 0,.int .u64 0,.int .u64 0,.int .u64 0,.int .u64 0,.int .i64 0,.int .u8 0,.int .i64 0,.int .i64 0,.int .u8 0] .exact g5 n40 fun l8 g12 n8=>
(Qd (ptr l44 (o44+8)) fun l _=>g12 l=g5 l)∧(Qd (ptr l6 (0+1)) fun l _=>g12 l=g5 l)∧(Qd v48 fun l _=>g12 l=g5 l)∧(Qd (ptr l6 0) fun l _=>g12 l=g5 l)∧C QbY [.agg c49.toArray,a1,.agg c51.toArray] g12 n8 fun v52 g13 n52=>
Zc v52 0 fun v53=>
Zc v52 1 fun v54=>
Zc v52 2 fun v55=>
Zm v53 fun cg14=>
cg14.length=15∧Js g13 l8 0 cg14 fun g14=>
Jb .int .neq v55 (.int .i64 0) fun v57=>
Qa v57 (
Jc K v55 g14 n52) (
Qg v13 fun v60=>
Qd v60 fun l61 o61=>
C Zw [(ptr l61 (o61+1))] g14 n52 fun v62 g15 n62=>
Qg a0 fun v64=>
Qd v64 fun l65 o65=>
kLd g15 l65 (o65+8) fun v66=>
kLd g15 l6 (0+1) fun v68=>
Qn g15 l8 0 15 fun c69=>
Jd v66 v68 15 fun v70=>
Qd v70 fun lg16 og16=>
Zm (.agg c69.toArray) fun cg16=>
cg16.length=15∧Js g15 lg16 og16 cg16 fun g16=>
kLd g16 l6 (0+1) fun v74=>
C Zp [a0,v54,v74] g16 n62 fun v75 g17 n75=>
Jc K (.int .i64 0) g17 n75)))))
theorem QcD (C:CT) (a0 a1:Value) (g:G) (n:Nat) (K:Cont):Zb9 C a0 a1 g n K=Zf Tryz.prog C JA [a0,a1] g n K:=by kernel_rfl
def Xa1 (C:CT) (K:Cont) (t:Env) (g:G) (n:Nat):Prop:=
Qd (t 7) fun l50 o50=>
Qn g l50 o50 12 fun c50=>
Qd (t 4) fun lg12 og12=>
Zm (.agg c50.toArray) fun cg12=>
cg12.length=12∧Js g lg12 og12 cg12 fun g12=>
Qd (t 4) fun lr0 or0=>
Qn g12 lr0 or0 12 fun r0=>
Jc K (.tuple #[.agg r0.toArray,t 10]) g12 n
def Za0 (C:CT) (K:Cont) (I_l1:Qm) (t:Env) (g:G) (n:Nat):Prop:=
Jb .int .lss (t 40) (t 39) fun v41=>
Qa v41 (
Jd (t 38) (t 40) 12 fun v42=>
Qd v42 fun l43 o43=>
Qn g l43 o43 12 fun c43=>
Qp [.int .i64 0,.int .i64 0,.bool false,.bool false,.int .u64 0,.int .u64 0,.int .u64 0,.int .u64 0,.int .u64 0,.int .u64 0,.int .u64 0,.int .u64 0] .exact g n fun l12 g9 n12=>
Zm (.agg c43.toArray) fun cg10=>
cg10.length=12∧Js g9 l12 0 cg10 fun g10=>
Qg (t 6) fun v45=>
Qd v45 fun l46 o46=>
Qn g10 l12 0 12 fun c47=>
C Xq [(ptr l46 (o46+2)),.agg c47.toArray] g10 n12 fun v48 g11 n48=>
Jb .int .add (t 40) (.int .i64 1) fun v49=>
I_l1 (puts t [(41,v41),(42,v42),(43,.agg c43.toArray),(12,ptr l12 0),(44,t 6),(45,v45),(46,(ptr l46 (o46+2))),(47,.agg c47.toArray),(48,v48),(49,v49),(40,v49)]) g11 n48) (
Xa1 C K (puts t [(41,v41)]) g n)
def JbC (C:CT) (a0 a1:Value) (g:G) (n:Nat) (K:Cont):Prop:=
Qp [.int .i64 0,.int .i64 0,.bool false,.bool false,.int .u64 0,.int .u64 0,.int .u64 0,.int .u64 0,.int .u64 0,.int .u64 0,.int .u64 0,.int .u64 0] .exact g n fun l4 g1 n4=>
C Xt [a0,a1] g1 n4 fun v15 g2 n15=>
Jb .ptr .eql v15 (.pointer none) fun v17=>
Qa v17 (
Qe [.int .i64 0,.int .i64 0,.bool false,.bool false,.int .u64 0,.int .u64 0,.int .u64 0,.int .u64 0,.int .u64 0,.int .u64 0,.int .u64 0,.int .u64 0] [] fun c18=>
Zm (.agg c18.toArray) fun cg3=>
cg3.length=12∧Js g2 l4 0 cg3 fun g3=>
Qn g3 l4 0 12 fun r0=>
Jc K (.tuple #[.agg r0.toArray,.int .i64 1]) g3 n15) (
Qg v15 fun v21=>
Qd v21 fun l22 o22=>
C Zw [(ptr l22 (o22+3))] g2 n15 fun v23 g4 n23=>
Zc v23 0 fun v24=>
Zc v23 1 fun v25=>
Qp [.int .i64 0,.int .i64 0,.bool false,.bool false,.int .u64 0,.int .u64 0,.int .u64 0,.int .u64 0,.int .u64 0,.int .u64 0,.int .u64 0,.int .u64 0] .exact g4 n23 fun l7 g5 n7=>
Zm v24 fun cg6=>
cg6.length=12∧Js g5 l7 0 cg6 fun g6=>
kUn .not v25 fun v27=>
Qa v27 (
Qe [.int .i64 0,.int .i64 0,.bool false,.bool false,.int .u64 0,.int .u64 0,.int .u64 0,.int .u64 0,.int .u64 0,.int .u64 0,.int .u64 0,.int .u64 0] [] fun c28=>
Zm (.agg c28.toArray) fun cg7=>
cg7.length=12∧Js g6 l4 0 cg7 fun g7=>
Qn g7 l4 0 12 fun r0=>
Jc K (.tuple #[.agg r0.toArray,.int .i64 14]) g7 n7) (
Qg v15 fun v31=>
Qd v31 fun l32 o32=>
kLd g6 l32 (o32+0) fun v33=>
Qn g6 l7 0 12 fun c34=>
C Qay [v33,.agg c34.toArray] g6 n7 fun v35 g8 n35=>
Zc v35 0 fun v36=>
Zc v35 1 fun v37=>
Qan v36 fun v39=>
lfp (Za0 C K) (puts (Xi [a0,a1]) [(4,ptr l4 0),(5,.int .i64 0),(13,a0),(14,a1),(15,v15),(6,v15),(16,v15),(17,v17),(20,v15),(21,v21),(22,(ptr l22 (o22+3))),(23,v23),(19,v23),(24,v24),(25,v25),(7,ptr l7 0),(8,v25),(26,v25),(27,v27),(30,v15),(31,v31),(32,(ptr l32 (o32+0))),(33,v33),(34,.agg c34.toArray),(35,v35),(29,v35),(36,v36),(37,v37),(9,v36),(10,v37),(38,v36),(39,v39),(40,.int .i64 0)]) g8 n35))
theorem Qcg (C:CT) (a0 a1:Value) (g:G) (n:Nat) (K:Cont):JbC C a0 a1 g n K=Zf Tryz.prog C Ju [a0,a1] g n K:=by kernel_rfl
def Za9 (C:CT) (g:G) (n:Nat) (K:Cont):Prop:=
C XB [] g n fun v9 g1 n9=>
C ZaO [v9,.slice none 0 0] g1 n9 fun v10 g2 n10=>
Zc v10 0 fun v11=>
Zc v10 1 fun v12=>
Qe [.int .i64 0,.int .i64 0,.int .i64 0,.int .i64 0,.int .i64 0] [(0,none,.int .i64 1),(1,none,.int .i64 1),(4,none,.int .i64 5)] fun c14=>
Qe [.int .i64 0,.int .i64 0,.int .i64 0,.int .i64 0,.int .i64 0] [(0,none,.int .i64 9),(1,none,.int .i64 1),(2,none,.int .i64 0),(4,none,.int .i64 192)] fun c15=>
Qe [.int .i64 0,.int .i64 0,.int .i64 0,.int .i64 0,.int .i64 0] [(0,none,.int .i64 8),(1,none,.int .i64 2),(2,none,.int .i64 0),(4,none,.int .i64 192)] fun c16=>
Qe [.int .i64 0,.int .i64 0,.int .i64 0,.int .i64 0,.int .i64 0] [(0,none,.int .i64 8),(1,none,.int .i64 3),(2,none,.int .i64 0),(4,none,.int .i64 193)] fun c17=>
Qe (reps 4 [.int .i64 0,.int .i64 0,.int .i64 0,.int .i64 0,.int .i64 0]) [(0,some 5,.agg c14.toArray),(5,some 5,.agg c15.toArray),(10,some 5,.agg c16.toArray),(15,some 5,.agg c17.toArray)] fun c18=>
Qp c18 .exact g2 n10 fun l18 g3 n18=>
C Jj [(.slice (some ⟨l18,0,none⟩) 4 4)] g3 n18 fun v19 g4 n19=>
C Qaz [.int .i64 0,.int .i64 2,v19] g4 n19 fun v20 g5 n20=>
Zc v20 0 fun v21=>
Zc v20 1 fun v22=>
Jb .int .neq v12 (.int .i64 0) fun v24=>
Qa v24 (
Jc K (.bool false) g5 n20) (
Jb .int .neq v22 (.int .i64 0) fun v27=>
Qa v27 (
Jc K (.bool false) g5 n20) (
Jb .ptr .eql v11 (.pointer none) fun v31=>
Qa v31 (
Jc K (.bool false) g5 n20) (
Jb .ptr .eql v21 (.pointer none) fun v35=>
Qa v35 (
Jc K (.bool false) g5 n20) (
C Jl [v21,v11] g5 n20 fun v39 g6 n39=>
C Jl [v21,v11] g6 n39 fun v42 g7 n42=>
C Jl [v21,v11] g7 n42 fun v45 g8 n45=>
C Jl [v21,v11] g8 n45 fun v48 g9 n48=>
Qan v42 fun v50=>
Jb .int .eql v50 (.int .i64 1) fun v51=>
Qa v51 (
Jd v42 (.int .i64 0) 5 fun v54=>
Qd v54 fun l55 o55=>
kLd g9 l55 (o55+0) fun v56=>
Jb .int .eql v56 (.int .i64 12) fun v57=>
Qa v57 (
Jd v42 (.int .i64 0) 5 fun v61=>
Qd v61 fun l62 o62=>
kLd g9 l62 (o62+2) fun v63=>
Jb .int .eql v63 (.int .i64 3) fun v64=>
Qa v64 (
Qan v45 fun v68=>
Jb .int .eql v68 (.int .i64 1) fun v69=>
Qa v69 (
Jd v45 (.int .i64 0) 5 fun v73=>
Qd v73 fun l74 o74=>
kLd g9 l74 (o74+0) fun v75=>
Jb .int .eql v75 (.int .i64 2) fun v76=>
Qa v76 (
Jd v45 (.int .i64 0) 5 fun v80=>
Qd v80 fun l81 o81=>
kLd g9 l81 (o81+4) fun v82=>
Jb .int .eql v82 (.int .u64 5) fun v83=>
Qa v83 (
Qan v48 fun v87=>
Jb .int .eql v87 (.int .i64 1) fun v88=>
Qa v88 (
Jd v48 (.int .i64 0) 5 fun v92=>
Qd v92 fun l93 o93=>
kLd g9 l93 (o93+0) fun v94=>
Jb .int .eql v94 (.int .i64 10) fun v95=>
Qa v95 (
C ZaN [v21] g9 n48 fun v99 g10 n99=>
ZdT v99 (.int .i64 2) 8 1 none fun v100=>
Jb .int .eql v100 (.int .u64 5) fun v101=>
Qa v101 (
C XR [v21] g10 n99 fun v105 g11 n105=>
kUn .not v105 fun v106=>
Qa v106 (
C Xs [v21] g11 n105 fun v110 g12 n110=>
Qan v110 fun v111=>
Jb .int .eql v111 (.int .i64 1) fun v112=>
Jc K v112 g12 n110) (
Jc K (.bool false) g11 n105)) (
Jc K (.bool false) g10 n99)) (
Jc K (.bool false) g9 n48)) (
Jc K (.bool false) g9 n48)) (
Jc K (.bool false) g9 n48)) (
Jc K (.bool false) g9 n48)) (
Jc K (.bool false) g9 n48)) (
Jc K (.bool false) g9 n48)) (
Jc K (.bool false) g9 n48)) (
Jc K (.bool false) g9 n48)))))
theorem QbU (C:CT) (g:G) (n:Nat) (K:Cont):Za9 C g n K=Zf Tryz.prog C Zh [] g n K:=by kernel_rfl
def Jb7 (C:CT) (a0:Value) (g:G) (n:Nat) (K:Cont):Prop:=
Jb .ptr .neq a0 (.pointer none) fun v4=>
Qa v4 (
Qg a0 fun v7=>
Qd v7 fun l8 o8=>
kLd g l8 (o8+13) fun v9=>
Jc K v9 g n) (
Jc K (.bool false) g n)
theorem JcG (C:CT) (a0:Value) (g:G) (n:Nat) (K:Cont):Jb7 C a0 g n K=Zf Tryz.prog C XR [a0] g n K:=by kernel_rfl
def Xb6 (C:CT) (a0 a1:Value) (g:G) (n:Nat) (K:Cont):Prop:=
Zm a1 fun c3=>
Qp c3 .exact g n fun l3 g1 n3=>
Jb .ptr .eql a0 (.pointer none) fun v6=>
Qa v6 (
Jc K (.slice none 0 0) g1 n3) (
kLd g1 l3 (0+0) fun v9=>
Jb .int .neq v9 (.int .i64 14) fun v10=>
Qa v10 (
Jc K (.slice none 0 0) g1 n3) (
Qg a0 fun v14=>
Qd v14 fun l15 o15=>
kLd g1 l15 (o15+12) fun v16=>
Jb .int .eql v16 (.int .i64 0) fun v17=>
Qa v17 (
Jc K (.slice none 0 0) g1 n3) (
Qg a0 fun v20=>
Qd v20 fun l21 o21=>
kLd g1 l21 (o21+12) fun v22=>
Jb .int .sub v22 (.int .i64 1) fun v23=>
Qg a0 fun v24=>
Qd v24 fun l25 o25=>
kSt g1 l25 (o25+12) v23 fun g2=>
Qg a0 fun v27=>
Qd v27 fun l28 o28=>
kLd g2 l28 (o28+0) fun v29=>
kLd g2 l3 (0+1) fun v31=>
Qe [.int .i64 0,.int .i64 0,.int .i64 0,.int .i64 0,.int .u64 0] [(0,none,.int .i64 6),(1,none,v29),(2,none,v31)] fun c32=>
Qe (reps 1 [.int .i64 0,.int .i64 0,.int .i64 0,.int .i64 0,.int .u64 0]) [(0,some 5,.agg c32.toArray)] fun c33=>
Qp c33 .exact g2 n3 fun l33 g3 n33=>
Jc K (.slice (some ⟨l33,0,none⟩) 1 1) g3 n33)))
theorem JcI (C:CT) (a0 a1:Value) (g:G) (n:Nat) (K:Cont):Xb6 C a0 a1 g n K=Zf Tryz.prog C QS [a0,a1] g n K:=by kernel_rfl
def XbK (C:CT) (a0:Value) (g:G) (n:Nat) (K:Cont):Prop:=
Jb .ptr .eql a0 (.pointer none) fun v4=>
Qa v4 (
Jc K (.int .i64 0) g n) (
Qg a0 fun v6=>
Qd v6 fun l7 o7=>
kLd g l7 (o7+12) fun v8=>
Jc K v8 g n)
theorem Xcz (C:CT) (a0:Value) (g:G) (n:Nat) (K:Cont):XbK C a0 g n K=Zf Tryz.prog C JY [a0] g n K:=by kernel_rfl
def Xa8 (C:CT) (a0 a1:Value) (g:G) (n:Nat) (K:Cont):Prop:=
C Xt [a0,a1] g n fun v13 g1 n13=>
Jb .ptr .eql v13 (.pointer none) fun v15=>
Qa v15 (
Jc K (.int .i64 1) g1 n13) (
Qg v13 fun v18=>
Qd v18 fun l19 o19=>
C Zw [(ptr l19 (o19+2))] g1 n13 fun v20 g2 n20=>
Zc v20 0 fun v21=>
Zc v20 1 fun v22=>
Qp [.int .i64 0,.int .i64 0,.bool false,.bool false,.int .u64 0,.int .u64 0,.int .u64 0,.int .u64 0,.int .u64 0,.int .u64 0,.int .u64 0,.int .u64 0] .exact g2 n20 fun l6 g3 n6=>
Zm v21 fun cg4=>
cg4.length=12∧Js g3 l6 0 cg4 fun g4=>
kUn .not v22 fun v24=>
Qa v24 (
Jc K (.int .i64 14) g4 n6) (
Qg a0 fun v27=>
Qd v27 fun l28 o28=>
kLd g4 l28 (o28+8) fun v29=>
kLd g4 l6 (0+1) fun v31=>
Jd v29 v31 15 fun v32=>
Qd v32 fun l33 o33=>
Qn g4 l33 o33 15 fun c33=>
Qn g4 l6 0 12 fun c35=>
(C JaY [.agg c33.toArray,a1,.agg c35.toArray] g4 n6 fun v36 g5 n36=>
Zc v36 0 fun v37=>
Zc v36 1 fun v38=>
Zc v36 2 fun v39=>
Qp [.bool false,.bool false,.int .u64 0,.int .u64 0,.int .u64 0,.int .u64 0,.int .u64 0,.int .u64 0,.int .u64 0,.int .u64 0,.int .i64 0,.int .u8 0,.int .i64 0,.int .i64 0,.int .u8 0] .exact g5 n36 fun l8 g6 n8=>
(Qd (ptr l28 (o28+8)) fun l _=>g6 l=g5 l)∧(Qd (ptr l6 (0+1)) fun l _=>g6 l=g5 l)∧(Qd v32 fun l _=>g6 l=g5 l)∧(Qd (ptr l6 0) fun l _=>g6 l=g5 l)∧Zm v37 fun cg7=>
cg7.length=15∧Js g6 l8 0 cg7 fun g7=>
Jb .int .neq v39 (.int .i64 0) fun v41=>
Qa v41 (
Jc K v39 g7 n8) (
Qg a0 fun v44=>
Qd v44 fun l45 o45=>
kLd g7 l45 (o45+8) fun v46=>
kLd g7 l6 (0+1) fun v48=>
Qn g7 l8 0 15 fun c49=>
Jd v46 v48 15 fun v50=>
Qd v50 fun lg8 og8=>
Zm (.agg c49.toArray) fun cg8=>
cg8.length=15∧Js g7 lg8 og8 cg8 fun g8=>
kLd g8 l6 (0+1) fun v54=>
C Zp [a0,v38,v54] g8 n8 fun v55 g9 n55=>
Jc K (.int .i64 0) g9 n55))∧(Qp [.bool false,.bool false,.int .u64 0,.int .u64 0,.int .u64 0,.int .u64 0,.int .u64 0,.int .u64 0,.int .u64 0,.int .u64 0,.int .i64 0,.int .u8 0,.int .i64 0,.int .i64 0,.int .u8 0] .exact g4 n6 fun l8 g10 n8=>
(Qd (ptr l28 (o28+8)) fun l _=>g10 l=g4 l)∧(Qd (ptr l6 (0+1)) fun l _=>g10 l=g4 l)∧(Qd v32 fun l _=>g10 l=g4 l)∧(Qd (ptr l6 0) fun l _=>g10 l=g4 l)∧C JaY [.agg c33.toArray,a1,.agg c35.toArray] g10 n8 fun v36 g11 n36=>
Zc v36 0 fun v37=>
Zc v36 1 fun v38=>
Zc v36 2 fun v39=>
Zm v37 fun cg12=>
cg12.length=15∧Js g11 l8 0 cg12 fun g12=>
Jb .int .neq v39 (.int .i64 0) fun v41=>
Qa v41 (
Jc K v39 g12 n36) (
Qg a0 fun v44=>
Qd v44 fun l45 o45=>
kLd g12 l45 (o45+8) fun v46=>
kLd g12 l6 (0+1) fun v48=>
Qn g12 l8 0 15 fun c49=>
Jd v46 v48 15 fun v50=>
Qd v50 fun lg13 og13=>
Zm (.agg c49.toArray) fun cg13=>
cg13.length=15∧Js g12 lg13 og13 cg13 fun g13=>
kLd g13 l6 (0+1) fun v54=>
C Zp [a0,v38,v54] g13 n36 fun v55 g14 n55=>
Jc K (.int .i64 0) g14 n55))))
theorem JbP (C:CT) (a0 a1:Value) (g:G) (n:Nat) (K:Cont):Xa8 C a0 a1 g n K=Zf Tryz.prog C QB [a0,a1] g n K:=by kernel_rfl
def Jby (C:CT) (a0 a1:Value) (g:G) (n:Nat) (K:Cont):Prop:=
C Xu [a0,a1] g n fun v12 g1 n12=>
kUn .not v12 fun v13=>
Qa v13 (
Jc K (.int .i64 1) g1 n12) (
Qg a0 fun v16=>
Qd v16 fun l17 o17=>
kLd g1 l17 (o17+8) fun v18=>
Jd v18 a1 15 fun v20=>
Qd v20 fun l21 o21=>
Qn g1 l21 o21 15 fun c21=>
C Xa9 [.agg c21.toArray] g1 n12 fun v22 g2 n22=>
kUn .not v22 fun v23=>
Qa v23 (
Jc K (.int .i64 16) g2 n22) (
C Jar [a0,a1] g2 n22 fun v26 g3 n26=>
Jb .int .neq v26 (.int .i64 0) fun v28=>
Qa v28 (
Jc K v26 g3 n26) (
Qg a0 fun v32=>
Qd v32 fun l33 o33=>
kLd g3 l33 (o33+8) fun v34=>
Jd v34 a1 15 fun v36=>
Qd v36 fun l37 o37=>
Qn g3 l37 o37 15 fun c37=>
C Qbv [.agg c37.toArray] g3 n26 fun v38 g4 n38=>
Zc v38 0 fun v39=>
Zc v38 1 fun v40=>
Zc v38 2 fun v41=>
Qp [.bool false,.bool false,.int .u64 0,.int .u64 0,.int .u64 0,.int .u64 0,.int .u64 0,.int .u64 0,.int .u64 0,.int .u64 0,.int .i64 0,.int .u8 0,.int .i64 0,.int .i64 0,.int .u8 0] .exact g4 n38 fun l6 g5 n6=>
Zm v39 fun cg6=>
cg6.length=15∧Js g5 l6 0 cg6 fun g6=>
Jb .int .neq v41 (.int .i64 0) fun v43=>
Qa v43 (
Jc K v41 g6 n6) (
Qg a0 fun v46=>
Qd v46 fun l47 o47=>
kLd g6 l47 (o47+8) fun v48=>
Qn g6 l6 0 15 fun c50=>
Jd v48 a1 15 fun v51=>
Qd v51 fun lg7 og7=>
Zm (.agg c50.toArray) fun cg7=>
cg7.length=15∧Js g6 lg7 og7 cg7 fun g7=>
C Zp [a0,v40,a1] g7 n6 fun v55 g8 n55=>
Jc K (.int .i64 0) g8 n55))))
theorem Qcj (C:CT) (a0 a1:Value) (g:G) (n:Nat) (K:Cont):Jby C a0 a1 g n K=Zf Tryz.prog C ZI [a0,a1] g n K:=by kernel_rfl
def QaQ (C:CT) (K:Cont) (I_l1:Qm) (t:Env) (g:G) (n:Nat):Prop:=
Jb .int .add (t 11) (.int .i64 1) fun v48=>
I_l1 (puts t [(47,t 11),(48,v48),(11,v48)]) g n
def Zam (C:CT) (K:Cont) (I_l1:Qm) (I_l2:Qm) (t:Env) (g:G) (n:Nat):Prop:=
Jb .int .lss (t 14) (.int .i64 6) fun v74=>
Qa v74 (
C ZI [t 7,t 14] g n fun v79 g16 n79=>
C J6 [t 7,t 14] g16 n79 fun v82 g17 n82=>
Jb .int .add (t 14) (.int .i64 1) fun v76=>
I_l2 (puts t [(73,t 14),(74,v74),(77,t 7),(78,t 14),(79,v79),(80,t 7),(81,t 14),(82,v82),(75,t 14),(76,v76),(14,v76)]) g17 n82) (
QaQ C K I_l1 (puts t [(73,t 14),(74,v74)]) g n)
def JZ (C:CT) (K:Cont) (I_l5:Qm) (t:Env) (g:G) (n:Nat):Prop:=
Jb .int .add (t 15) (.int .i64 1) fun v88=>
I_l5 (puts t [(87,t 15),(88,v88),(15,v88)]) g n
def JaR (C:CT) (K:Cont) (t:Env) (g:G) (n:Nat):Prop:=
C XR [t 9] g n fun v106 g20 n106=>
kUn .not v106 fun v107=>
Jc K (.tuple #[t 4,t 5,v107]) g20 n106
def ZaU (C:CT) (K:Cont) (I_l5:Qm) (t:Env) (g:G) (n:Nat):Prop:=
Qan (t 5) fun v85=>
Jb .int .lss (t 15) v85 fun v86=>
Qa v86 (
Jd (t 5) (t 15) 5 fun v91=>
Qd v91 fun l92 o92=>
kLd g l92 (o92+0) fun v93=>
Jb .int .eql v93 (.int .i64 8) fun v94=>
Qa v94 (
Jd (t 5) (t 15) 5 fun v98=>
Qd v98 fun l99 o99=>
kLd g l99 (o99+4) fun v100=>
Qe (reps 1 [.int .u64 0]) [(0,none,v100)] fun c101=>
Qp c101 .exact g n fun l101 g18 n101=>
Qx (t 4) (.slice (some ⟨l101,0,none⟩) 1 1) 1 8 g18 n101 fun v102 g19 n102=>
JZ C K I_l5 (puts t [(83,t 15),(84,t 5),(85,v85),(86,v86),(89,t 5),(90,t 15),(91,v91),(92,(ptr l92 (o92+0))),(93,v93),(94,v94),(95,t 4),(96,t 5),(97,t 15),(98,v98),(99,(ptr l99 (o99+4))),(100,v100),(101,(.slice (some ⟨l101,0,none⟩) 1 1)),(102,v102),(4,v102)]) g19 n102) (
JZ C K I_l5 (puts t [(83,t 15),(84,t 5),(85,v85),(86,v86),(89,t 5),(90,t 15),(91,v91),(92,(ptr l92 (o92+0))),(93,v93),(94,v94)]) g n)) (
JaR C K (puts t [(83,t 15),(84,t 5),(85,v85),(86,v86)]) g n)
def J2 (C:CT) (K:Cont) (t:Env) (g:G) (n:Nat):Prop:=
lfp (ZaU C K) (puts t [(15,.int .i64 0)]) g n
def QaT (C:CT) (K:Cont) (I_l1:Qm) (t:Env) (g:G) (n:Nat):Prop:=
Jb .int .lss (t 11) (t 1) fun v42=>
Qa v42 (
C XR [t 9] g n fun v45 g4 n45=>
Qa v45 (
C Jl [t 9,t 7] g4 n45 fun v52 g5 n52=>
Qx (t 5) v52 5 40 g5 n52 fun v53 g6 n53=>
C Qz [t 9,t 7] g6 n53 fun v57 g7 n57=>
Qx v53 v57 5 40 g7 n57 fun v58 g8 n58=>
C JA [t 7,.int .i64 0] g8 n58 fun v60 g9 n60=>
C QB [t 7,.int .i64 0] g9 n60 fun v62 g10 n62=>
C Ju [t 7,.int .i64 0] g10 n62 fun v65 g11 n65=>
Zc v65 0 fun v66=>
Zc v65 1 fun v67=>
Qp [.int .i64 0,.int .i64 0,.bool false,.bool false,.int .u64 0,.int .u64 0,.int .u64 0,.int .u64 0,.int .u64 0,.int .u64 0,.int .u64 0,.int .u64 0] .exact g11 n65 fun l12 g12 n12=>
Zm v66 fun cg13=>
cg13.length=12∧Js g12 l12 0 cg13 fun g13=>
Qn g13 l12 0 12 fun c70=>
C QS [t 9,.agg c70.toArray] g13 n12 fun v71 g14 n71=>
Qx v58 v71 5 40 g14 n71 fun v72 g15 n72=>
lfp (Zam C K I_l1) (puts t [(40,t 11),(41,t 1),(42,v42),(43,.bool true),(44,t 9),(45,v45),(46,v45),(49,t 5),(50,t 9),(51,t 7),(52,v52),(53,v53),(5,v53),(54,v53),(55,t 9),(56,t 7),(57,v57),(58,v58),(5,v58),(59,t 7),(60,v60),(61,t 7),(62,v62),(64,t 7),(65,v65),(63,v65),(66,v66),(67,v67),(12,ptr l12 0),(13,v67),(68,v58),(69,t 9),(70,.agg c70.toArray),(71,v71),(72,v72),(5,v72),(14,.int .i64 0)]) g15 n72) (
J2 C K (puts t [(40,t 11),(41,t 1),(42,v42),(43,.bool true),(44,t 9),(45,v45),(46,v45)]) g4 n45)) (
J2 C K (puts t [(40,t 11),(41,t 1),(42,v42),(43,.bool false),(44,undef),(45,undef),(46,.bool false)]) g n)
def Jba (C:CT) (a0 a1:Value) (g:G) (n:Nat) (K:Cont):Prop:=
C XB [] g n fun v17 g1 n17=>
C ZaO [v17,.slice none 0 0] g1 n17 fun v18 g2 n18=>
Zc v18 0 fun v19=>
Zc v18 1 fun v20=>
C Qaz [.int .i64 0,.int .i64 2,a0] g2 n18 fun v23 g3 n23=>
Zc v23 0 fun v24=>
Zc v23 1 fun v25=>
Jb .int .neq v20 (.int .i64 0) fun v27=>
Qa v27 (
Jc K (.tuple #[.slice none 0 0,.slice none 0 0,.bool false]) g3 n23) (
Jb .int .neq v25 (.int .i64 0) fun v30=>
Qa v30 (
Jc K (.tuple #[.slice none 0 0,.slice none 0 0,.bool false]) g3 n23) (
Jb .ptr .eql v19 (.pointer none) fun v34=>
Qa v34 (
Jc K (.tuple #[.slice none 0 0,.slice none 0 0,.bool false]) g3 n23) (
Jb .ptr .eql v24 (.pointer none) fun v38=>
Qa v38 (
Jc K (.tuple #[.slice none 0 0,.slice none 0 0,.bool false]) g3 n23) (
lfp (QaT C K) (puts (Xi [a0,a1]) [(4,.slice none 0 0),(5,.slice none 0 0),(6,.bool false),(17,v17),(18,v18),(16,v18),(19,v19),(20,v20),(7,v19),(8,v20),(22,a0),(23,v23),(21,v23),(24,v24),(25,v25),(9,v24),(10,v25),(26,v20),(27,v27),(28,.bool false),(29,v25),(30,v30),(31,v30),(32,.bool false),(33,v19),(34,v34),(35,v34),(36,.bool false),(37,v24),(38,v38),(39,v38),(11,.int .i64 0)]) g3 n23))))
theorem QbR (C:CT) (a0 a1:Value) (g:G) (n:Nat) (K:Cont):Jba C a0 a1 g n K=Zf Tryz.prog C QK [a0,a1] g n K:=by kernel_rfl
def XaV (C:CT) (K:Cont) (I_l1:Qm) (t:Env) (g:G) (n:Nat):Prop:=
Qan (t 0) fun v13=>
Jb .int .lss (t 5) v13 fun v14=>
Qa v14 (
Jd (t 0) (t 5) 1 fun v19=>
Qd v19 fun l20 o20=>
kLd g l20 o20 fun v20=>
Jd (t 1) (t 5) 1 fun v23=>
Qd v23 fun l24 o24=>
kLd g l24 o24 fun v24=>
Jb .int .neq v20 v24 fun v25=>
Qa v25 (
Jc K (.bool false) g n) (
Jb .int .add (t 5) (.int .i64 1) fun v16=>
I_l1 (puts t [(11,t 5),(12,t 0),(13,v13),(14,v14),(17,t 0),(18,t 5),(19,v19),(20,v20),(21,t 1),(22,t 5),(23,v23),(24,v24),(25,v25),(15,t 5),(16,v16),(5,v16)]) g n)) (
Jc K (.bool true) g n)
def Qbn (C:CT) (a0 a1:Value) (g:G) (n:Nat) (K:Cont):Prop:=
Qan a0 fun v7=>
Qan a1 fun v9=>
Jb .int .neq v7 v9 fun v10=>
Qa v10 (
Jc K (.bool false) g n) (
lfp (XaV C K) (puts (Xi [a0,a1]) [(4,.bool false),(6,a0),(7,v7),(8,a1),(9,v9),(10,v10),(5,.int .i64 0)]) g n)
theorem Jb2 (C:CT) (a0 a1:Value) (g:G) (n:Nat) (K:Cont):Qbn C a0 a1 g n K=Zf Tryz.prog C Jaq [a0,a1] g n K:=by kernel_rfl
def XV (C:CT) (K:Cont) (t:Env) (g:G) (n:Nat):Prop:=
Jb .int .rem (t 0) (.int .u64 256) fun v16=>
ZO .i64 v16 fun v17=>
Jb .int .shr (t 0) (.int .u64 8) fun v19=>
Jb .int .rem v19 (.int .u64 16) fun v20=>
ZO .i64 v20 fun v21=>
Jb .int .shr (t 0) (.int .u64 12) fun v23=>
Jb .int .rem v23 (.int .u64 16) fun v24=>
ZO .i64 v24 fun v25=>
Jb .int .shr (t 0) (.int .u64 16) fun v27=>
Jb .int .rem v27 (.int .u64 16) fun v28=>
ZO .i64 v28 fun v29=>
Qe [.int .i64 0,.int .i64 0,.int .i64 0,.int .i64 0,.int .i64 0] [(0,none,v17),(1,none,v21),(2,none,v25),(3,none,v29),(4,none,t 4)] fun c31=>
Qp [.int .i64 0,.int .i64 0,.int .i64 0,.int .i64 0,.int .i64 0] .exact g n fun l5 g2 n5=>
Zm (.agg c31.toArray) fun cg3=>
cg3.length=5∧Js g2 l5 0 cg3 fun g3=>
Qn g3 l5 0 5 fun c33=>
C XG [.agg c33.toArray] g3 n5 fun v34 g4 n34=>
Zc v34 0 fun v35=>
Zc v34 1 fun v36=>
Jb .int .neq v36 (.int .i64 0) fun v38=>
Qa v38 (
Qe [.int .i64 0,.int .i64 0,.int .i64 0,.int .i64 0,.int .i64 0] [] fun c44=>
Qd (t 2) fun lg5 og5=>
Zm (.agg c44.toArray) fun cg5=>
cg5.length=5∧Js g4 lg5 og5 cg5 fun g5=>
Qd (t 2) fun lr0 or0=>
Qn g5 lr0 or0 5 fun r0=>
Jc K (.tuple #[.agg r0.toArray,.int .i64 11]) g5 n34) (
Jb .int .neq v35 (t 0) fun v42=>
Qa v42 (
Qe [.int .i64 0,.int .i64 0,.int .i64 0,.int .i64 0,.int .i64 0] [] fun c44=>
Qd (t 2) fun lg6 og6=>
Zm (.agg c44.toArray) fun cg6=>
cg6.length=5∧Js g4 lg6 og6 cg6 fun g6=>
Qd (t 2) fun lr0 or0=>
Qn g6 lr0 or0 5 fun r0=>
Jc K (.tuple #[.agg r0.toArray,.int .i64 11]) g6 n34) (
Qn g4 l5 0 5 fun c45=>
Qd (t 2) fun lg7 og7=>
Zm (.agg c45.toArray) fun cg7=>
cg7.length=5∧Js g4 lg7 og7 cg7 fun g7=>
Qd (t 2) fun lr0 or0=>
Qn g7 lr0 or0 5 fun r0=>
Jc K (.tuple #[.agg r0.toArray,.int .i64 0]) g7 n34))
def Qa0 (C:CT) (a0:Value) (g:G) (n:Nat) (K:Cont):Prop:=
Qp [.int .i64 0,.int .i64 0,.int .i64 0,.int .i64 0,.int .i64 0] .exact g n fun l2 g1 n2=>
Jb .int .shr a0 (.int .u64 32) fun v9=>
ZO .i64 v9 fun v10=>
Jb .int .geq v10 (.int .i64 2147483648) fun v12=>
Qa v12 (
Jb .int .sub v10 (.int .i64 4294967296) fun v14=>
XV C K (puts (Xi [a0]) [(2,ptr l2 0),(3,.int .i64 0),(8,a0),(9,v9),(10,v10),(4,v10),(11,v10),(12,v12),(13,v10),(14,v14),(4,v14)]) g1 n2) (
XV C K (puts (Xi [a0]) [(2,ptr l2 0),(3,.int .i64 0),(8,a0),(9,v9),(10,v10),(4,v10),(11,v10),(12,v12)]) g1 n2)
theorem ZbG (C:CT) (a0:Value) (g:G) (n:Nat) (K:Cont):Qa0 C a0 g n K=Zf Tryz.prog C Xag [a0] g n K:=by kernel_rfl
def Xep (C:CT) (a0:Value) (g:G) (n:Nat) (K:Cont):Prop:=
Zm a0 fun c1=>
Qp c1 .exact g n fun l1 g1 n1=>
kLd g1 l1 (0+3) fun v5=>
Jb .int .eql v5 (.int .i64 1) fun v6=>
Qa v6 (
kLd g1 l1 (0+0) fun v23=>
C Xf [v23,.int .i64 1,.int .i64 8] g1 n1 fun v24 g2 n24=>
Qa v24 (
kLd g2 l1 (0+1) fun v27=>
C Xf [v27,.int .i64 2,.int .i64 64] g2 n24 fun v28 g3 n28=>
Qa v28 (
kLd g3 l1 (0+2) fun v32=>
kLd g3 l1 (0+1) fun v34=>
Jb .int .sub v34 (.int .i64 1) fun v35=>
C Xf [v32,.int .i64 1,v35] g3 n28 fun v36 g4 n36=>
Qa v36 (
kLd g4 l1 (0+4) fun v43=>
C Xf [v43,.int .i64 1,.int .i64 8] g4 n36 fun v44 g5 n44=>
Qa v44 (
kLd g5 l1 (0+5) fun v48=>
C Xf [v48,.int .i64 1,.int .i64 16] g5 n44 fun v49 g6 n49=>
Qa v49 (
kLd g6 l1 (0+6) fun v53=>
C Xf [v53,.int .i64 1,.int .i64 16] g6 n49 fun v54 g7 n54=>
Jc K v54 g7 n54) (
Jc K (.bool false) g6 n49)) (
Jc K (.bool false) g5 n44)) (
Jc K (.bool false) g4 n36)) (
Jc K (.bool false) g3 n28)) (
Jc K (.bool false) g2 n24)) (
kLd g1 l1 (0+3) fun v9=>
Jb .int .eql v9 (.int .i64 2) fun v10=>
Qa v10 (
kLd g1 l1 (0+0) fun v23=>
C Xf [v23,.int .i64 1,.int .i64 8] g1 n1 fun v24 g8 n24=>
Qa v24 (
kLd g8 l1 (0+1) fun v27=>
C Xf [v27,.int .i64 2,.int .i64 64] g8 n24 fun v28 g9 n28=>
Qa v28 (
kLd g9 l1 (0+2) fun v32=>
kLd g9 l1 (0+1) fun v34=>
Jb .int .sub v34 (.int .i64 1) fun v35=>
C Xf [v32,.int .i64 1,v35] g9 n28 fun v36 g10 n36=>
Qa v36 (
kLd g10 l1 (0+4) fun v43=>
C Xf [v43,.int .i64 1,.int .i64 8] g10 n36 fun v44 g11 n44=>
Qa v44 (
kLd g11 l1 (0+5) fun v48=>
C Xf [v48,.int .i64 1,.int .i64 16] g11 n44 fun v49 g12 n49=>
Qa v49 (
kLd g12 l1 (0+6) fun v53=>
C Xf [v53,.int .i64 1,.int .i64 16] g12 n49 fun v54 g13 n54=>
Jc K v54 g13 n54) (
Jc K (.bool false) g12 n49)) (
Jc K (.bool false) g11 n44)) (
Jc K (.bool false) g10 n36)) (
Jc K (.bool false) g9 n28)) (
Jc K (.bool false) g8 n24)) (
kLd g1 l1 (0+3) fun v14=>
Jb .int .eql v14 (.int .i64 4) fun v15=>
Qa v15 (
kLd g1 l1 (0+0) fun v23=>
C Xf [v23,.int .i64 1,.int .i64 8] g1 n1 fun v24 g14 n24=>
Qa v24 (
kLd g14 l1 (0+1) fun v27=>
C Xf [v27,.int .i64 2,.int .i64 64] g14 n24 fun v28 g15 n28=>
Qa v28 (
kLd g15 l1 (0+2) fun v32=>
kLd g15 l1 (0+1) fun v34=>
Jb .int .sub v34 (.int .i64 1) fun v35=>
C Xf [v32,.int .i64 1,v35] g15 n28 fun v36 g16 n36=>
Qa v36 (
kLd g16 l1 (0+4) fun v43=>
C Xf [v43,.int .i64 1,.int .i64 8] g16 n36 fun v44 g17 n44=>
Qa v44 (
kLd g17 l1 (0+5) fun v48=>
C Xf [v48,.int .i64 1,.int .i64 16] g17 n44 fun v49 g18 n49=>
Qa v49 (
kLd g18 l1 (0+6) fun v53=>
C Xf [v53,.int .i64 1,.int .i64 16] g18 n49 fun v54 g19 n54=>
Jc K v54 g19 n54) (
Jc K (.bool false) g18 n49)) (
Jc K (.bool false) g17 n44)) (
Jc K (.bool false) g16 n36)) (
Jc K (.bool false) g15 n28)) (
Jc K (.bool false) g14 n24)) (
kLd g1 l1 (0+3) fun v19=>
Jb .int .eql v19 (.int .i64 8) fun v20=>
kLd g1 l1 (0+0) fun v23=>
C Xf [v23,.int .i64 1,.int .i64 8] g1 n1 fun v24 g20 n24=>
Qa v24 (
kLd g20 l1 (0+1) fun v27=>
C Xf [v27,.int .i64 2,.int .i64 64] g20 n24 fun v28 g21 n28=>
Qa v28 (
kLd g21 l1 (0+2) fun v32=>
kLd g21 l1 (0+1) fun v34=>
Jb .int .sub v34 (.int .i64 1) fun v35=>
C Xf [v32,.int .i64 1,v35] g21 n28 fun v36 g22 n36=>
Qa v36 (
Qa v20 (
kLd g22 l1 (0+4) fun v43=>
C Xf [v43,.int .i64 1,.int .i64 8] g22 n36 fun v44 g23 n44=>
Qa v44 (
kLd g23 l1 (0+5) fun v48=>
C Xf [v48,.int .i64 1,.int .i64 16] g23 n44 fun v49 g24 n49=>
Qa v49 (
kLd g24 l1 (0+6) fun v53=>
C Xf [v53,.int .i64 1,.int .i64 16] g24 n49 fun v54 g25 n54=>
Jc K v54 g25 n54) (
Jc K (.bool false) g24 n49)) (
Jc K (.bool false) g23 n44)) (
Jc K (.bool false) g22 n36)) (
Jc K (.bool false) g22 n36)) (
Jc K (.bool false) g21 n28)) (
Jc K (.bool false) g20 n24))))
theorem Jer (C:CT) (a0:Value) (g:G) (n:Nat) (K:Cont):Xep C a0 g n K=Zf Tryz.prog C QbQ [a0] g n K:=by kernel_rfl
def Xf6 (C:CT) (a0 a1:Value) (g:G) (n:Nat) (K:Cont):Prop:=
Jb .int .lss a0 (.int .i64 2) fun v7=>
Qa v7 (
Jc K (.tuple #[.pointer none,.int .i64 1]) g n) (
Jb .int .gtr a0 (.int .i64 64) fun v10=>
Qa v10 (
Jc K (.tuple #[.pointer none,.int .i64 1]) g n) (
Jb .int .lss a1 (.int .i64 1) fun v14=>
Qa v14 (
Jc K (.tuple #[.pointer none,.int .i64 1]) g n) (
Jb .int .sub a0 (.int .i64 1) fun v19=>
Jb .int .gtr a1 v19 fun v20=>
Qa v20 (
Jc K (.tuple #[.pointer none,.int .i64 1]) g n) (
Zb1 a0 a0 [.int .u64 0,.int .u64 0,.int .u64 0,.int .u64 0,.int .u64 0,.int .u64 0,.int .u64 0,.int .u64 0] 64 g n fun v23 g1 n23=>
Qe [.slice none 0 0,.int .i64 0,.int .i64 0,.int .i64 0] [(0,none,v23),(1,none,a1)] fun c25=>
Zm (.agg c25.toArray) fun c26=>
Qp c26 .exact g1 n23 fun l26 g2 n26=>
Jc K (.tuple #[ptr l26 0,.int .i64 0]) g2 n26))))
theorem Qfb (C:CT) (a0 a1:Value) (g:G) (n:Nat) (K:Cont):Xf6 C a0 a1 g n K=Zf Tryz.prog C Xbh [a0,a1] g n K:=by kernel_rfl
def Zbb (C:CT) (a0 a1:Value) (g:G) (n:Nat) (K:Cont):Prop:=
Jb .ptr .eql a0 (.pointer none) fun v6=>
Qa v6 (
Jc K (.int .i64 1) g n) (
Qan a1 fun v9=>
Qg a0 fun v11=>
Qd v11 fun l12 o12=>
kLd g l12 (o12+0) fun v13=>
Qan v13 fun v14=>
Jb .int .neq v9 v14 fun v15=>
Qa v15 (
Jc K (.int .i64 1) g n) (
Qg a0 fun v18=>
Qd v18 fun l19 o19=>
kLd g l19 (o19+0) fun v20=>
JbN v20 a1 8 g fun v22 g1=>
Jc K (.int .i64 0) g1 n))
theorem ZbW (C:CT) (a0 a1:Value) (g:G) (n:Nat) (K:Cont):Zbb C a0 a1 g n K=Zf Tryz.prog C XY [a0,a1] g n K:=by kernel_rfl
def XbP (C:CT) (a0:Value) (g:G) (n:Nat) (K:Cont):Prop:=
Jb .ptr .neq a0 (.pointer none) fun v3=>
Qa v3 (
Qg a0 fun v5=>
Qd v5 fun l6 o6=>
kLd g l6 (o6+0) fun v7=>
Qg a0 fun v9=>
Qd v9 fun l10 o10=>
kLd g l10 (o10+1) fun v11=>
QA v7 none (some v11) none 8 fun v12=>
ZaS v12 [.int .u64 0,.int .u64 0,.int .u64 0,.int .u64 0,.int .u64 0,.int .u64 0,.int .u64 0,.int .u64 0] g fun v_ g1=>
Jc K (.tuple #[]) g1 n) (
Jc K (.tuple #[]) g n)
theorem QcA (C:CT) (a0:Value) (g:G) (n:Nat) (K:Cont):XbP C a0 g n K=Zf Tryz.prog C Qah [a0] g n K:=by kernel_rfl
def XfV (C:CT) (a0 a1:Value) (g:G) (n:Nat) (K:Cont):Prop:=
Jb .ptr .eql a0 (.pointer none) fun v7=>
Qa v7 (
Jc K (.tuple #[.pointer none,.int .i64 1]) g n) (
Jb .int .lss a1 (.int .i64 1) fun v10=>
Qa v10 (
Jc K (.tuple #[.pointer none,.int .i64 1]) g n) (
Jb .int .gtr a1 (.int .i64 16) fun v14=>
Qa v14 (
Jc K (.tuple #[.pointer none,.int .i64 1]) g n) (
Qe [.pointer none,.int .i64 0,.slice none 0 0] [(0,none,a0),(1,none,a1)] fun c18=>
Zm (.agg c18.toArray) fun c19=>
Qp c19 .exact g n fun l19 g1 n19=>
Jc K (.tuple #[ptr l19 0,.int .i64 0]) g1 n19)))
theorem Xe4 (C:CT) (a0 a1:Value) (g:G) (n:Nat) (K:Cont):XfV C a0 a1 g n K=Zf Tryz.prog C QcL [a0,a1] g n K:=by kernel_rfl
def JaV (C:CT) (K:Cont) (I_l3:Qm) (t:Env) (g:G) (n:Nat):Prop:=
Jb .int .lss (t 57) (t 56) fun v58=>
Qa v58 (
Qg (t 0) fun v61=>
Qd v61 fun l62 o62=>
kLd g l62 (o62+8) fun v63=>
C JcM [] g n fun v65 g7 n65=>
(Qd (ptr l62 (o62+8)) fun l _=>g7 l=g l)∧Jd v63 (t 57) 15 fun v66=>
Qd v66 fun lg8 og8=>
Zm v65 fun cg8=>
cg8.length=15∧Js g7 lg8 og8 cg8 fun g8=>
Jb .int .add (t 57) (.int .i64 1) fun v67=>
I_l3 (puts t [(58,v58),(59,t 57),(3,t 57),(60,t 0),(61,v61),(62,(ptr l62 (o62+8))),(63,v63),(64,t 57),(65,v65),(66,v66),(67,v67),(57,v67)]) g8 n65) (
Jc K (.tuple #[]) g n)
def Xaq (C:CT) (K:Cont) (t:Env) (g:G) (n:Nat):Prop:=
Qg (t 0) fun v45=>
Qd v45 fun l46 o46=>
kLd g l46 (o46+0+1) fun v48=>
Zb1 v48 v48 [.bool false,.bool false,.int .u64 0,.int .u64 0,.int .u64 0,.int .u64 0,.int .u64 0,.int .u64 0,.int .u64 0,.int .u64 0,.int .i64 0,.int .u8 0,.int .i64 0,.int .i64 0,.int .u8 0] 112 g n fun v49 g5 n49=>
Qg (t 0) fun v50=>
Qd v50 fun l51 o51=>
kSt g5 l51 (o51+8) v49 fun g6=>
Qg (t 0) fun v53=>
Qd v53 fun l54 o54=>
kLd g6 l54 (o54+8) fun v55=>
Qan v55 fun v56=>
lfp (JaV C K) (puts t [(43,t 0),(44,t 0),(45,v45),(46,(ptr l46 (o46+0))),(47,(ptr l46 (o46+0+1))),(48,v48),(49,v49),(50,v50),(51,(ptr l51 (o51+8))),(52,t 0),(53,v53),(54,(ptr l54 (o54+8))),(55,v55),(56,v56),(57,.int .i64 0)]) g6 n49
def XaW (C:CT) (K:Cont) (I_l1:Qm) (t:Env) (g:G) (n:Nat):Prop:=
Jb .int .lss (t 18) (t 17) fun v19=>
Qa v19 (
Qg (t 0) fun v23=>
Qd v23 fun l24 o24=>
kLd g l24 (o24+7) fun v25=>
Qg (t 0) fun v28=>
Qd v28 fun l29 o29=>
kLd g l29 (o29+0+3) fun v31=>
Qg (t 0) fun v33=>
Qd v33 fun l34 o34=>
kLd g l34 (o34+0+4) fun v36=>
C ZbV [v31,v36] g n fun v37 g3 n37=>
(Qd (ptr l24 (o24+7)) fun l _=>g3 l=g l)∧Zc v37 0 fun v38=>
Zc v37 1 fun v39=>
Jd v25 (t 18) 4 fun v40=>
Qd v40 fun l41 o41=>
kSt g3 l41 (o41+0) v38 fun g4=>
Jb .int .add (t 18) (.int .i64 1) fun v42=>
I_l1 (puts t [(19,v19),(20,t 18),(2,t 18),(22,t 0),(23,v23),(24,(ptr l24 (o24+7))),(25,v25),(26,t 18),(27,t 0),(28,v28),(29,(ptr l29 (o29+0))),(30,(ptr l29 (o29+0+3))),(31,v31),(32,t 0),(33,v33),(34,(ptr l34 (o34+0))),(35,(ptr l34 (o34+0+4))),(36,v36),(37,v37),(21,v37),(38,v38),(39,v39),(40,v40),(41,(ptr l41 (o41+0))),(42,v42),(18,v42)]) g4 n37) (
Xaq C K (puts t [(19,v19)]) g n)
def Zbn (C:CT) (a0:Value) (g:G) (n:Nat) (K:Cont):Prop:=
Qg a0 fun v6=>
Qd v6 fun l7 o7=>
kLd g l7 (o7+0+0) fun v9=>
Zb1 v9 v9 [.pointer none,.slice none 0 0,.slice none 0 0,.slice none 0 0] 80 g n fun v10 g1 n10=>
Qg a0 fun v11=>
Qd v11 fun l12 o12=>
kSt g1 l12 (o12+7) v10 fun g2=>
Qg a0 fun v14=>
Qd v14 fun l15 o15=>
kLd g2 l15 (o15+7) fun v16=>
Qan v16 fun v17=>
lfp (XaW C K) (puts (Xi [a0]) [(4,a0),(5,a0),(6,v6),(7,(ptr l7 (o7+0))),(8,(ptr l7 (o7+0+0))),(9,v9),(10,v10),(11,v11),(12,(ptr l12 (o12+7))),(13,a0),(14,v14),(15,(ptr l15 (o15+7))),(16,v16),(17,v17),(18,.int .i64 0)]) g2 n10
theorem Zb4 (C:CT) (a0:Value) (g:G) (n:Nat) (K:Cont):Zbn C a0 g n K=Zf Tryz.prog C Xas [a0] g n K:=by kernel_rfl
def JeL (C:CT) (a0:Value) (g:G) (n:Nat) (K:Cont):Prop:=
Jb .int .lss a0 (.int .i64 1) fun v5=>
Qa v5 (
Jc K (.tuple #[.pointer none,.int .i64 1]) g n) (
Jb .int .gtr a0 (.int .i64 16) fun v8=>
Qa v8 (
Jc K (.tuple #[.pointer none,.int .i64 1]) g n) (
Qe [.int .i64 0,.int .i64 0,.int .i64 0,.int .u64 0,.bool false,.int .i64 0,.int .i64 0,.int .i64 0,.int .u64 0,.bool false,.int .i64 0,.int .i64 0,.int .i64 0,.int .u64 0,.bool false,.int .i64 0,.int .i64 0,.int .i64 0,.int .u64 0,.bool false,.int .i64 0,.int .i64 0,.int .i64 0,.int .u64 0,.bool false,.int .i64 0,.int .i64 0,.int .i64 0,.int .u64 0,.bool false,.int .i64 0,.int .i64 0,.int .i64 0,.int .u64 0,.bool false,.int .i64 0,.int .i64 0,.int .i64 0,.int .u64 0,.bool false,.int .i64 0,.int .i64 0,.int .i64 0,.int .u64 0,.bool false,.int .i64 0,.int .i64 0,.int .i64 0,.int .u64 0,.bool false,.int .i64 0,.int .i64 0,.int .i64 0,.int .u64 0,.bool false,.int .i64 0,.int .i64 0,.int .i64 0,.int .u64 0,.bool false,.int .i64 0,.int .i64 0,.int .i64 0,.int .u64 0,.bool false,.int .i64 0,.int .i64 0,.int .i64 0,.int .u64 0,.bool false,.int .i64 0,.int .i64 0,.int .i64 0,.int .u64 0,.bool false,.int .i64 0,.int .i64 0,.int .i64 0,.int .u64 0,.bool false,.int .i64 0,.int .i64 0,.int .i64 0] [(80,none,a0)] fun c11=>
Zm (.agg c11.toArray) fun c12=>
Qp c12 .exact g n fun l12 g1 n12=>
Jc K (.tuple #[ptr l12 0,.int .i64 0]) g1 n12))
theorem Qey (C:CT) (a0:Value) (g:G) (n:Nat) (K:Cont):JeL C a0 g n K=Zf Tryz.prog C Jcg [a0] g n K:=by kernel_rfl
def ZV (C:CT) (K:Cont) (t:Env) (g:G) (n:Nat):Prop:=
Qd (t 1) fun l14 o14=>
kLd g l14 (o14+0) fun v15=>
ZO .u64 v15 fun v16=>
Qd (t 1) fun l17 o17=>
kLd g l17 (o17+1) fun v18=>
ZO .u64 v18 fun v19=>
Jb .int .shl v19 (.int .u64 8) fun v20=>
Jb .int .add v16 v20 fun v21=>
Qd (t 1) fun l22 o22=>
kLd g l22 (o22+2) fun v23=>
ZO .u64 v23 fun v24=>
Jb .int .shl v24 (.int .u64 12) fun v25=>
Jb .int .add v21 v25 fun v26=>
Qd (t 1) fun l27 o27=>
kLd g l27 (o27+3) fun v28=>
ZO .u64 v28 fun v29=>
Jb .int .shl v29 (.int .u64 16) fun v30=>
Jb .int .add v26 v30 fun v31=>
ZO .u64 (t 4) fun v33=>
Jb .int .shl v33 (.int .u64 32) fun v34=>
Jb .int .add v31 v34 fun v35=>
Jc K (.tuple #[v35,.int .i64 0]) g n
def XaB (C:CT) (a0:Value) (g:G) (n:Nat) (K:Cont):Prop:=
Zm a0 fun c1=>
Qp c1 .exact g n fun l1 g1 n1=>
Qn g1 l1 0 5 fun c5=>
C Q5 [.agg c5.toArray] g1 n1 fun v6 g2 n6=>
kUn .not v6 fun v7=>
Qa v7 (
Jc K (.tuple #[.int .u64 0,.int .i64 11]) g2 n6) (
kLd g2 l1 (0+4) fun v9=>
Jb .int .lss v9 (.int .i64 0) fun v11=>
Qa v11 (
Jb .int .add v9 (.int .i64 4294967296) fun v13=>
ZV C K (puts (Xi [a0]) [(1,ptr l1 0),(2,.int .u64 0),(3,.int .i64 0),(5,.agg c5.toArray),(6,v6),(7,v7),(8,(ptr l1 (0+4))),(9,v9),(4,v9),(10,v9),(11,v11),(12,v9),(13,v13),(4,v13)]) g2 n6) (
ZV C K (puts (Xi [a0]) [(1,ptr l1 0),(2,.int .u64 0),(3,.int .i64 0),(5,.agg c5.toArray),(6,v6),(7,v7),(8,(ptr l1 (0+4))),(9,v9),(4,v9),(10,v9),(11,v11)]) g2 n6))
theorem QaK (C:CT) (a0:Value) (g:G) (n:Nat) (K:Cont):XaB C a0 g n K=Zf Tryz.prog C XG [a0] g n K:=by kernel_rfl
def Xcn (C:CT) (a0:Value) (g:G) (n:Nat) (K:Cont):Prop:=
isCell a0=true∧Qp [a0] .exact g n fun l1 g1 n1=>
Qp [.int .i64 0,.int .i64 0,.int .i64 0,.int .i64 0,.int .i64 0] .exact g1 n1 fun l2 g2 n2=>
kLd g2 l1 0 fun v4=>
Qg v4 fun v5=>
Qd v5 fun l6 o6=>
C Za3 [(ptr l6 (o6+0)),(.func (.func QaJ) #[] #[ptr l1 0])] g2 n2 fun v8 g3 n8=>
kLd g3 l1 0 fun v9=>
Qg v9 fun v10=>
Qd v10 fun l11 o11=>
Qn g3 l11 (o11+4) 5 fun c12=>
kLd g3 l1 0 fun v13=>
Qg v13 fun v14=>
Qd v14 fun l15 o15=>
kLd g3 l15 (o15+9) fun v16=>
Zm (.agg c12.toArray) fun cg4=>
cg4.length=5∧Js g3 l2 0 cg4 fun g4=>
(Qd (ptr l1 0) fun l _=>g4 l=g3 l)∧(Qd (ptr l15 (o15+9)) fun l _=>g4 l=g3 l)∧Qn g4 l2 0 5 fun r0=>
Jc K (.tuple #[.agg r0.toArray,v16]) g4 n8
theorem ZcW (C:CT) (a0:Value) (g:G) (n:Nat) (K:Cont):Xcn C a0 g n K=Zf Tryz.prog C ZaV [a0] g n K:=by kernel_rfl
def Jb6 (C:CT) (a0:Value) (g:G) (n:Nat) (K:Cont):Prop:=
C Jk [a0,.int .i64 10,.int .i64 0,.int .i64 0,.int .u64 0] g n fun v3 g1 n3=>
Qg a0 fun v5=>
Qd v5 fun l6 o6=>
kLd g1 l6 (o6+0) fun v7=>
Qg v7 fun v8=>
Qd v8 fun l9 o9=>
kSt g1 l9 (o9+13) (.bool false) fun g2=>
Jc K (.tuple #[]) g2 n3
theorem XcL (C:CT) (a0:Value) (g:G) (n:Nat) (K:Cont):Jb6 C a0 g n K=Zf Tryz.prog C Zao [a0] g n K:=by kernel_rfl
def ZaH (C:CT) (K:Cont) (t:Env) (g:G) (n:Nat):Prop:=
Qa (t 50) (
C Zq [t 0] g n fun v54 g9 n54=>
Jc K (.tuple #[]) g9 n54) (
Jb .int .eql (t 15) (.int .i64 21) fun v56=>
Qa v56 (
Qd (t 3) fun l59 o59=>
kLd g l59 (o59+1) fun v60=>
Qg (t 2) fun v61=>
Zj v61 v60 8 1 fun v62=>
Qd v62 fun l63 o63=>
kLd g l63 o63 fun v63=>
C Jk [t 0,.int .i64 8,.int .i64 0,.int .i64 0,v63] g n fun v64 g10 n64=>
C Jq [t 0] g10 n64 fun v66 g11 n66=>
Jc K (.tuple #[]) g11 n66) (
Jb .int .eql (t 15) (.int .i64 22) fun v68=>
Qa v68 (
C Jk [t 0,.int .i64 9,.int .i64 0,.int .i64 0,.int .u64 0] g n fun v70 g12 n70=>
Qg (t 0) fun v72=>
Qd v72 fun l73 o73=>
kLd g12 l73 (o73+0) fun v74=>
Qg v74 fun v75=>
Qd v75 fun l76 o76=>
kSt g12 l76 (o76+13) (.bool false) fun g13=>
Jc K (.tuple #[]) g13 n70) (
C Zay [t 0] g n fun v17 g14 n17=>
Jc K (.tuple #[]) g14 n17)))
def QaH (C:CT) (K:Cont) (t:Env) (g:G) (n:Nat):Prop:=
Qa (t 45) (
C XaE [t 0] g n fun v49 g8 n49=>
Jc K (.tuple #[]) g8 n49) (
Jb .int .eql (t 15) (.int .i64 10) fun v51=>
Qa v51 (
ZaH C K (puts t [(51,v51),(50,v51)]) g n) (
Jb .int .eql (t 15) (.int .i64 11) fun v52=>
ZaH C K (puts t [(51,v51),(50,v51),(52,v52),(50,v52)]) g n))
def X9 (C:CT) (K:Cont) (t:Env) (g:G) (n:Nat):Prop:=
Qa (t 38) (
C Jv [t 0] g n fun v44 g7 n44=>
Jc K (.tuple #[]) g7 n44) (
Jb .int .eql (t 15) (.int .i64 15) fun v46=>
Qa v46 (
QaH C K (puts t [(46,v46),(45,v46)]) g n) (
Jb .int .eql (t 15) (.int .i64 16) fun v47=>
QaH C K (puts t [(46,v46),(45,v46),(47,v47),(45,v47)]) g n))
def QcO (C:CT) (a0:Value) (g:G) (n:Nat) (K:Cont):Prop:=
Qg a0 fun v5=>
Qd v5 fun l6 o6=>
kLd g l6 (o6+0) fun v7=>
Qg v7 fun v8=>
Qd v8 fun l9 o9=>
Qg a0 fun v11=>
Qd v11 fun l12 o12=>
Qn g l12 (o12+2) 5 fun c13=>
Qp [.int .i64 0,.int .i64 0,.int .i64 0,.int .i64 0,.int .i64 0] .exact g n fun l3 g1 n3=>
Zm (.agg c13.toArray) fun cg2=>
cg2.length=5∧Js g1 l3 0 cg2 fun g2=>
kLd g2 l3 (0+0) fun v15=>
Jb .int .eql v15 (.int .i64 0) fun v19=>
Qa v19 (
C Jq [a0] g2 n3 fun v21 g3 n21=>
Jc K (.tuple #[]) g3 n21) (
Jb .int .eql v15 (.int .i64 1) fun v23=>
Qa v23 (
kLd g2 l3 (0+1) fun v26=>
kLd g2 l3 (0+4) fun v28=>
ZO .u64 v28 fun v29=>
Zj (ptr l9 (o9+1)) v26 8 1 fun v31=>
Qd v31 fun lg4 og4=>
kSt g2 lg4 og4 v29 fun g4=>
C Jq [a0] g4 n3 fun v33 g5 n33=>
Jc K (.tuple #[]) g5 n33) (
Jb .int .eql v15 (.int .i64 8) fun v35=>
Qa v35 (
C XaL [a0] g2 n3 fun v37 g6 n37=>
Jc K (.tuple #[]) g6 n37) (
Jb .int .eql v15 (.int .i64 9) fun v39=>
Qa v39 (
X9 C K (puts (Xi [a0]) [(4,a0),(5,v5),(6,(ptr l6 (o6+0))),(7,v7),(8,v8),(9,(ptr l9 (o9+1))),(2,(ptr l9 (o9+1))),(10,a0),(11,v11),(12,(ptr l12 (o12+2))),(13,.agg c13.toArray),(3,ptr l3 0),(14,(ptr l3 (0+0))),(15,v15),(19,v19),(18,v19),(23,v23),(22,v23),(35,v35),(34,v35),(39,v39),(38,v39)]) g2 n3) (
Jb .int .eql v15 (.int .i64 12) fun v40=>
Qa v40 (
X9 C K (puts (Xi [a0]) [(4,a0),(5,v5),(6,(ptr l6 (o6+0))),(7,v7),(8,v8),(9,(ptr l9 (o9+1))),(2,(ptr l9 (o9+1))),(10,a0),(11,v11),(12,(ptr l12 (o12+2))),(13,.agg c13.toArray),(3,ptr l3 0),(14,(ptr l3 (0+0))),(15,v15),(19,v19),(18,v19),(23,v23),(22,v23),(35,v35),(34,v35),(39,v39),(38,v39),(40,v40),(38,v40)]) g2 n3) (
Jb .int .eql v15 (.int .i64 13) fun v41=>
Qa v41 (
X9 C K (puts (Xi [a0]) [(4,a0),(5,v5),(6,(ptr l6 (o6+0))),(7,v7),(8,v8),(9,(ptr l9 (o9+1))),(2,(ptr l9 (o9+1))),(10,a0),(11,v11),(12,(ptr l12 (o12+2))),(13,.agg c13.toArray),(3,ptr l3 0),(14,(ptr l3 (0+0))),(15,v15),(19,v19),(18,v19),(23,v23),(22,v23),(35,v35),(34,v35),(39,v39),(38,v39),(40,v40),(38,v40),(41,v41),(38,v41)]) g2 n3) (
Jb .int .eql v15 (.int .i64 14) fun v42=>
X9 C K (puts (Xi [a0]) [(4,a0),(5,v5),(6,(ptr l6 (o6+0))),(7,v7),(8,v8),(9,(ptr l9 (o9+1))),(2,(ptr l9 (o9+1))),(10,a0),(11,v11),(12,(ptr l12 (o12+2))),(13,.agg c13.toArray),(3,ptr l3 0),(14,(ptr l3 (0+0))),(15,v15),(19,v19),(18,v19),(23,v23),(22,v23),(35,v35),(34,v35),(39,v39),(38,v39),(40,v40),(38,v40),(41,v41),(38,v41),(42,v42),(38,v42)]) g2 n3))))))
theorem Qc3 (C:CT) (a0:Value) (g:G) (n:Nat) (K:Cont):QcO C a0 g n K=Zf Tryz.prog C Za1 [a0] g n K:=by kernel_rfl
def Xbb (C:CT) (K:Cont) (I_l1:Qm) (t:Env) (g:G) (n:Nat):Prop:=
Jb .int .lss (t 7) (t 6) fun v8=>
Qa v8 (
Qg (t 0) fun v15=>
Qd v15 fun l16 o16=>
C ZB [t 0,t 7] g n fun v14 g2 n14=>
Zj (ptr l16 (o16+0)) v14 16 5 fun v17=>
Qd v17 fun l18 o18=>
Qn g2 l18 o18 5 fun c18=>
Qe (reps 1 [.int .i64 0,.int .i64 0,.int .i64 0,.int .u64 0,.bool false]) [(0,some 5,.agg c18.toArray)] fun c19=>
Qp c19 .exact g2 n14 fun l19 g3 n19=>
Qx (t 3) (.slice (some ⟨l19,0,none⟩) 1 1) 5 40 g3 n19 fun v20 g4 n20=>
Jb .int .add (t 7) (.int .i64 1) fun v21=>
I_l1 (puts t [(8,v8),(9,t 7),(4,t 7),(10,t 3),(11,t 0),(12,t 0),(13,t 7),(15,v15),(16,(ptr l16 (o16+0))),(14,v14),(17,v17),(18,.agg c18.toArray),(19,(.slice (some ⟨l19,0,none⟩) 1 1)),(20,v20),(3,v20),(21,v21),(7,v21)]) g4 n20) (
Jc K (t 3) g n)
def ZbS (C:CT) (a0:Value) (g:G) (n:Nat) (K:Cont):Prop:=
C JC [a0] g n fun v6 g1 n6=>
lfp (Xbb C K) (puts (Xi [a0]) [(2,.slice none 0 0),(3,.slice none 0 0),(5,a0),(6,v6),(7,.int .i64 0)]) g1 n6
theorem Jcv (C:CT) (a0:Value) (g:G) (n:Nat) (K:Cont):ZbS C a0 g n K=Zf Tryz.prog C XaI [a0] g n K:=by kernel_rfl
def QbB (C:CT) (a0:Value) (g:G) (n:Nat) (K:Cont):Prop:=
Qp [.int .i64 0,.int .i64 0,.int .i64 0,.int .u64 0,.bool false] .exact g n fun l2 g1 n2=>
C JC [a0] g1 n2 fun v5 g2 n5=>
Jb .int .eql v5 (.int .i64 0) fun v6=>
Qa v6 (
Qe [.int .i64 0,.int .i64 0,.int .i64 0,.int .u64 0,.bool false] [] fun c7=>
Zm (.agg c7.toArray) fun cg3=>
cg3.length=5∧Js g2 l2 0 cg3 fun g3=>
Qn g3 l2 0 5 fun r0=>
Jc K (.tuple #[.agg r0.toArray,.bool false]) g3 n5) (
Qg a0 fun v10=>
Qd v10 fun l11 o11=>
kLd g2 l11 (o11+81) fun v12=>
Qg a0 fun v13=>
Qd v13 fun l14 o14=>
Zj (ptr l14 (o14+0)) v12 16 5 fun v15=>
Qd v15 fun l16 o16=>
Qn g2 l16 o16 5 fun c16=>
Zm (.agg c16.toArray) fun cg4=>
cg4.length=5∧Js g2 l2 0 cg4 fun g4=>
Qn g4 l2 0 5 fun r0=>
Jc K (.tuple #[.agg r0.toArray,.bool true]) g4 n5)
theorem Jce (C:CT) (a0:Value) (g:G) (n:Nat) (K:Cont):QbB C a0 g n K=Zf Tryz.prog C ZH [a0] g n K:=by kernel_rfl
def Qbo (C:CT) (a0 a1 a2 a3 a4:Value) (g:G) (n:Nat) (K:Cont):Prop:=
C Xt [a0,a1] g n fun v16 g1 n16=>
Jb .ptr .eql v16 (.pointer none) fun v18=>
Qa v18 (
Jc K (.bool false) g1 n16) (
C Xu [a0,a2] g1 n16 fun v22 g2 n22=>
kUn .not v22 fun v23=>
Qa v23 (
Jc K (.bool false) g2 n22) (
Qg v16 fun v27=>
Qd v27 fun l28 o28=>
kLd g2 l28 (o28+0) fun v29=>
C Zar [v29,a2,a3,a4] g2 n22 fun v33 g3 n33=>
Zc v33 0 fun v34=>
Zc v33 1 fun v35=>
C Jae [v16,v35] g3 n33 fun v38 g4 n38=>
Jc K v34 g4 n38))
theorem Jb1 (C:CT) (a0 a1 a2 a3 a4:Value) (g:G) (n:Nat) (K:Cont):Qbo C a0 a1 a2 a3 a4 g n K=Zf Tryz.prog C Z6 [a0,a1,a2,a3,a4] g n K:=by kernel_rfl
def XbN (C:CT) (a0 a1 a2 a3 a4:Value) (g:G) (n:Nat) (K:Cont):Prop:=
Qg a0 fun v12=>
Qd v12 fun l13 o13=>
kLd g l13 (o13+7) fun v14=>
Qg a0 fun v17=>
Qd v17 fun l18 o18=>
kLd g l18 (o18+0) fun v19=>
Qg v19 fun v20=>
Qd v20 fun l21 o21=>
kLd g l21 (o21+0) fun v22=>
Qe [.int .i64 0,.int .i64 0,.int .i64 0,.int .i64 0,.int .u64 0] [(0,none,a1),(1,none,v22),(2,none,a2),(3,none,a3),(4,none,a4)] fun c26=>
Qe (reps 1 [.int .i64 0,.int .i64 0,.int .i64 0,.int .i64 0,.int .u64 0]) [(0,some 5,.agg c26.toArray)] fun c27=>
Qp c27 .exact g n fun l27 g1 n27=>
(Qd (ptr l13 (o13+7)) fun l _=>g1 l=g l)∧Qx v14 (.slice (some ⟨l27,0,none⟩) 1 1) 5 40 g1 n27 fun v28 g2 n28=>
Qg a0 fun v29=>
Qd v29 fun l30 o30=>
kSt g2 l30 (o30+7) v28 fun g3=>
Jc K (.tuple #[]) g3 n28
theorem Zcr (C:CT) (a0 a1 a2 a3 a4:Value) (g:G) (n:Nat) (K:Cont):XbN C a0 a1 a2 a3 a4 g n K=Zf Tryz.prog C Jk [a0,a1,a2,a3,a4] g n K:=by kernel_rfl
def JbR (C:CT) (a0 a1 a2:Value) (g:G) (n:Nat) (K:Cont):Prop:=
Qg a0 fun v8=>
Qd v8 fun l9 o9=>
kLd g l9 (o9+0) fun v10=>
Qg v10 fun v11=>
Qd v11 fun l12 o12=>
kLd g l12 (o12+12) fun v13=>
Jb .int .geq v13 (.int .i64 16) fun v14=>
Qa v14 (
Jc K (.bool false) g n) (
Qg a0 fun v17=>
Qd v17 fun l18 o18=>
kLd g l18 (o18+1) fun v19=>
Qg a0 fun v21=>
Qd v21 fun l22 o22=>
kLd g l22 (o22+0) fun v23=>
Qg v23 fun v24=>
Qd v24 fun l25 o25=>
kLd g l25 (o25+0) fun v26=>
C Zas [v19,v26,a1,a2] g n fun v29 g1 n29=>
Jb .int .neq v29 (.int .i64 0) fun v30=>
Qa v30 (
Jc K (.bool false) g1 n29) (
C Jk [a0,.int .i64 13,a1,.int .i64 0,.int .u64 0] g1 n29 fun v34 g2 n34=>
Qg a0 fun v36=>
Qd v36 fun l37 o37=>
kLd g2 l37 (o37+0) fun v38=>
Qg v38 fun v39=>
Qd v39 fun l40 o40=>
kLd g2 l40 (o40+12) fun v41=>
Jb .int .add v41 (.int .i64 1) fun v42=>
Qg v38 fun v43=>
Qd v43 fun l44 o44=>
kSt g2 l44 (o44+12) v42 fun g3=>
Jc K (.bool true) g3 n34))
theorem Zco (C:CT) (a0 a1 a2:Value) (g:G) (n:Nat) (K:Cont):JbR C a0 a1 a2 g n K=Zf Tryz.prog C JL [a0,a1,a2] g n K:=by kernel_rfl
def QbF (C:CT) (a0:Value) (g:G) (n:Nat) (K:Cont):Prop:=
C ZH [a0] g n fun v6 g1 n6=>
Zc v6 0 fun v7=>
Zc v6 1 fun v8=>
Qp [.int .i64 0,.int .i64 0,.int .i64 0,.int .u64 0,.bool false] .exact g1 n6 fun l2 g2 n2=>
Zm v7 fun cg3=>
cg3.length=5∧Js g2 l2 0 cg3 fun g3=>
Qa v8 (
kLd g3 l2 (0+0) fun v12=>
Jb .int .eql v12 (.int .i64 14) fun v13=>
Qa v13 (
Qg a0 fun v17=>
Qd v17 fun l18 o18=>
kLd g3 l18 (o18+81) fun v19=>
Qg a0 fun v20=>
Qd v20 fun l21 o21=>
Zj (ptr l21 (o21+0)) v19 16 5 fun v22=>
Qd v22 fun l23 o23=>
kSt g3 l23 (o23+4) (.bool true) fun g4=>
Jc K (.tuple #[]) g4 n2) (
Jc K (.tuple #[]) g3 n2)) (
Jc K (.tuple #[]) g3 n2)
theorem Xcj (C:CT) (a0:Value) (g:G) (n:Nat) (K:Cont):QbF C a0 g n K=Zf Tryz.prog C Zae [a0] g n K:=by kernel_rfl
def Zaj (C:CT) (K:Cont) (t:Env) (g:G) (n:Nat):Prop:=
Qd (t 4) fun l34 o34=>
Qn g l34 o34 5 fun c34=>
Qd (t 2) fun lg9 og9=>
Zm (.agg c34.toArray) fun cg9=>
cg9.length=5∧Js g lg9 og9 cg9 fun g9=>
Qd (t 2) fun lr0 or0=>
Qn g9 lr0 or0 5 fun r0=>
Jc K (.tuple #[.agg r0.toArray,t 5]) g9 n
def JbV (C:CT) (a0:Value) (g:G) (n:Nat) (K:Cont):Prop:=
Qp [.int .i64 0,.int .i64 0,.int .i64 0,.int .u64 0,.bool false] .exact g n fun l2 g1 n2=>
C ZH [a0] g1 n2 fun v8 g2 n8=>
Zc v8 0 fun v9=>
Zc v8 1 fun v10=>
Qp [.int .i64 0,.int .i64 0,.int .i64 0,.int .u64 0,.bool false] .exact g2 n8 fun l4 g3 n4=>
Zm v9 fun cg4=>
cg4.length=5∧Js g3 l4 0 cg4 fun g4=>
Qa v10 (
Qg a0 fun v14=>
Qd v14 fun l15 o15=>
kLd g4 l15 (o15+81) fun v16=>
Qe [.int .i64 0,.int .i64 0,.int .i64 0,.int .u64 0,.bool false] [] fun c17=>
Qg a0 fun v18=>
Qd v18 fun l19 o19=>
Zj (ptr l19 (o19+0)) v16 16 5 fun v20=>
Qd v20 fun lg5 og5=>
Zm (.agg c17.toArray) fun cg5=>
cg5.length=5∧Js g4 lg5 og5 cg5 fun g5=>
Qg a0 fun v26=>
Qd v26 fun l27 o27=>
kLd g5 l27 (o27+82) fun v28=>
Jb .int .sub v28 (.int .i64 1) fun v29=>
C ZB [a0,.int .i64 1] g5 n4 fun v24 g6 n24=>
(Qd (ptr l27 (o27+82)) fun l _=>g6 l=g5 l)∧Qg a0 fun v30=>
Qd v30 fun l31 o31=>
kSt g6 l31 (o31+81) v24 fun g7=>
Qg a0 fun v32=>
Qd v32 fun l33 o33=>
kSt g7 l33 (o33+82) v29 fun g8=>
Zaj C K (puts (Xi [a0]) [(2,ptr l2 0),(3,.bool false),(7,a0),(8,v8),(6,v8),(9,v9),(10,v10),(4,ptr l4 0),(5,v10),(11,v10),(12,a0),(13,a0),(14,v14),(15,(ptr l15 (o15+81))),(16,v16),(17,.agg c17.toArray),(18,v18),(19,(ptr l19 (o19+0))),(20,v20),(21,a0),(22,a0),(23,a0),(25,a0),(26,v26),(27,(ptr l27 (o27+82))),(28,v28),(29,v29),(24,v24),(30,v30),(31,(ptr l31 (o31+81))),(32,v32),(33,(ptr l33 (o33+82)))]) g8 n24) (
Zaj C K (puts (Xi [a0]) [(2,ptr l2 0),(3,.bool false),(7,a0),(8,v8),(6,v8),(9,v9),(10,v10),(4,ptr l4 0),(5,v10),(11,v10)]) g4 n4)
theorem Qcq (C:CT) (a0:Value) (g:G) (n:Nat) (K:Cont):JbV C a0 g n K=Zf Tryz.prog C QaI [a0] g n K:=by kernel_rfl
def Jb4 (C:CT) (a0 a1:Value) (g:G) (n:Nat) (K:Cont):Prop:=
Jb .ptr .eql a0 (.pointer none) fun v6=>
Qa v6 (
Jc K (.pointer none) g n) (
Jb .int .lss a1 (.int .i64 0) fun v9=>
Qa v9 (
Jc K (.pointer none) g n) (
Qg a0 fun v14=>
Qd v14 fun l15 o15=>
kLd g l15 (o15+7) fun v16=>
Qan v16 fun v17=>
Jb .int .geq a1 v17 fun v18=>
Qa v18 (
Jc K (.pointer none) g n) (
Qg a0 fun v21=>
Qd v21 fun l22 o22=>
C ZC [(ptr l22 (o22+10)),.int .i64 1] g n fun v23 g1 n23=>
Qg a0 fun v25=>
Qd v25 fun l26 o26=>
kLd g1 l26 (o26+7) fun v27=>
Jd v27 a1 4 fun v29=>
Jc K v29 g1 n23)))
theorem ZcC (C:CT) (a0 a1:Value) (g:G) (n:Nat) (K:Cont):Jb4 C a0 a1 g n K=Zf Tryz.prog C Xt [a0,a1] g n K:=by kernel_rfl
def Zb7 (C:CT) (a0:Value) (g:G) (n:Nat) (K:Cont):Prop:=
Qp [.int .i64 0,.int .i64 0,.bool false,.bool false,.int .u64 0,.int .u64 0,.int .u64 0,.int .u64 0,.int .u64 0,.int .u64 0,.int .u64 0,.int .u64 0] .exact g n fun l2 g1 n2=>
C Qaw [a0] g1 n2 fun v5 g2 n5=>
Jb .int .eql v5 (.int .i64 0) fun v6=>
Qa v6 (
Qe [.int .i64 0,.int .i64 0,.bool false,.bool false,.int .u64 0,.int .u64 0,.int .u64 0,.int .u64 0,.int .u64 0,.int .u64 0,.int .u64 0,.int .u64 0] [] fun c7=>
Zm (.agg c7.toArray) fun cg3=>
cg3.length=12∧Js g2 l2 0 cg3 fun g3=>
Qn g3 l2 0 12 fun r0=>
Jc K (.tuple #[.agg r0.toArray,.bool false]) g3 n5) (
Qg a0 fun v9=>
Qd v9 fun l10 o10=>
kLd g2 l10 (o10+0) fun v11=>
Jd v11 (.int .i64 0) 12 fun v12=>
Qd v12 fun l13 o13=>
Qn g2 l13 o13 12 fun c13=>
Zm (.agg c13.toArray) fun cg4=>
cg4.length=12∧Js g2 l2 0 cg4 fun g4=>
Qn g4 l2 0 12 fun r0=>
Jc K (.tuple #[.agg r0.toArray,.bool true]) g4 n5)
theorem QcH (C:CT) (a0:Value) (g:G) (n:Nat) (K:Cont):Zb7 C a0 g n K=Zf Tryz.prog C J9 [a0] g n K:=by kernel_rfl
def XbC (C:CT) (a0 a1:Value) (g:G) (n:Nat) (K:Cont):Prop:=
Qg a0 fun v6=>
Qd v6 fun l7 o7=>
kLd g l7 (o7+8) fun v8=>
Jd v8 a1 15 fun v10=>
Qg v10 fun v12=>
Qd v12 fun l13 o13=>
kLd g l13 (o13+0) fun v14=>
kUn .not v14 fun v15=>
Qa v15 (
Qg a0 fun v19=>
Qd v19 fun l20 o20=>
kLd g l20 (o20+9) fun v21=>
C Xbo [v21,a1] g n fun v23 g1 n23=>
Zc v23 0 fun v24=>
Zc v23 1 fun v25=>
Qg v10 fun v26=>
Qd v26 fun l27 o27=>
Zm v24 fun cg2=>
cg2.length=8∧Js g1 l27 (o27+2) cg2 fun g2=>
Qg v10 fun v29=>
Qd v29 fun l30 o30=>
kSt g2 l30 (o30+0) (.bool true) fun g3=>
Jc K (.tuple #[]) g3 n23) (
Jc K (.tuple #[]) g n)
theorem Qca (C:CT) (a0 a1:Value) (g:G) (n:Nat) (K:Cont):XbC C a0 a1 g n K=Zf Tryz.prog C QaB [a0,a1] g n K:=by kernel_rfl
def XfZ (C:CT) (a0 a1 a2:Value) (g:G) (n:Nat) (K:Cont):Prop:=
Zm a0 fun c3=>
Qp c3 .exact g n fun l3 g1 n3=>
Zm a2 fun c5=>
Qp c5 .exact g1 n3 fun l5 g2 n5=>
Qp [.bool false,.bool false,.int .u64 0,.int .u64 0,.int .u64 0,.int .u64 0,.int .u64 0,.int .u64 0,.int .u64 0,.int .u64 0,.int .i64 0,.int .u8 0,.int .i64 0,.int .i64 0,.int .u8 0] .exact g2 n5 fun l6 g3 n6=>
Qn g3 l3 0 15 fun c11=>
C Qa2 [.agg c11.toArray] g3 n6 fun v12 g4 n12=>
kUn .not v12 fun v13=>
Qa v13 (
Qe [.bool false,.bool false,.int .u64 0,.int .u64 0,.int .u64 0,.int .u64 0,.int .u64 0,.int .u64 0,.int .u64 0,.int .u64 0,.int .i64 0,.int .u8 0,.int .i64 0,.int .i64 0,.int .u8 0] [] fun c30=>
Zm (.agg c30.toArray) fun cg5=>
cg5.length=15∧Js g4 l6 0 cg5 fun g5=>
Qn g5 l6 0 15 fun r0=>
Jc K (.tuple #[.agg r0.toArray,.slice none 0 0,.int .i64 1]) g5 n12) (
C JaN [a1] g4 n12 fun v16 g6 n16=>
kUn .not v16 fun v17=>
Qa v17 (
Qe [.bool false,.bool false,.int .u64 0,.int .u64 0,.int .u64 0,.int .u64 0,.int .u64 0,.int .u64 0,.int .u64 0,.int .u64 0,.int .i64 0,.int .u8 0,.int .i64 0,.int .i64 0,.int .u8 0] [] fun c30=>
Zm (.agg c30.toArray) fun cg7=>
cg7.length=15∧Js g6 l6 0 cg7 fun g7=>
Qn g7 l6 0 15 fun r0=>
Jc K (.tuple #[.agg r0.toArray,.slice none 0 0,.int .i64 1]) g7 n16) (
Qn g6 l5 0 12 fun c20=>
C ZaM [.agg c20.toArray] g6 n16 fun v21 g8 n21=>
kUn .not v21 fun v22=>
Qa v22 (
Qe [.bool false,.bool false,.int .u64 0,.int .u64 0,.int .u64 0,.int .u64 0,.int .u64 0,.int .u64 0,.int .u64 0,.int .u64 0,.int .i64 0,.int .u8 0,.int .i64 0,.int .i64 0,.int .u8 0] [] fun c30=>
Zm (.agg c30.toArray) fun cg9=>
cg9.length=15∧Js g8 l6 0 cg9 fun g9=>
Qn g9 l6 0 15 fun r0=>
Jc K (.tuple #[.agg r0.toArray,.slice none 0 0,.int .i64 1]) g9 n21) (
kLd g8 l5 (0+0) fun v26=>
C Xcb [v26] g8 n21 fun v27 g10 n27=>
kUn .not v27 fun v28=>
Qa v28 (
Qe [.bool false,.bool false,.int .u64 0,.int .u64 0,.int .u64 0,.int .u64 0,.int .u64 0,.int .u64 0,.int .u64 0,.int .u64 0,.int .i64 0,.int .u8 0,.int .i64 0,.int .i64 0,.int .u8 0] [] fun c30=>
Zm (.agg c30.toArray) fun cg11=>
cg11.length=15∧Js g10 l6 0 cg11 fun g11=>
Qn g11 l6 0 15 fun r0=>
Jc K (.tuple #[.agg r0.toArray,.slice none 0 0,.int .i64 1]) g11 n27) (
kLd g10 l3 (0+12) fun v33=>
Jb .int .neq v33 (.int .i64 0) fun v34=>
Qa v34 (
Qe [.bool false,.bool false,.int .u64 0,.int .u64 0,.int .u64 0,.int .u64 0,.int .u64 0,.int .u64 0,.int .u64 0,.int .u64 0,.int .i64 0,.int .u8 0,.int .i64 0,.int .i64 0,.int .u8 0] [] fun c35=>
Zm (.agg c35.toArray) fun cg12=>
cg12.length=15∧Js g10 l6 0 cg12 fun g12=>
Qn g12 l6 0 15 fun r0=>
Jc K (.tuple #[.agg r0.toArray,.slice none 0 0,.int .i64 15]) g12 n27) (
kLd g10 l3 (0+0) fun v38=>
kUn .not v38 fun v39=>
Qa v39 (
Qe [.bool false,.bool false,.int .u64 0,.int .u64 0,.int .u64 0,.int .u64 0,.int .u64 0,.int .u64 0,.int .u64 0,.int .u64 0,.int .i64 0,.int .u8 0,.int .i64 0,.int .i64 0,.int .u8 0] [] fun c40=>
Zm (.agg c40.toArray) fun cg13=>
cg13.length=15∧Js g10 l6 0 cg13 fun g13=>
Qn g13 l6 0 15 fun r0=>
Jc K (.tuple #[.agg r0.toArray,.slice none 0 0,.int .i64 16]) g13 n27) (
Qn g10 l3 0 15 fun c41=>
kLd g10 l5 (0+1) fun v43=>
Qe [.bool false,.bool false,.int .u64 0,.int .u64 0,.int .u64 0,.int .u64 0,.int .u64 0,.int .u64 0,.int .u64 0,.int .u64 0,.int .i64 0,.int .u8 0,.int .i64 0,.int .i64 0,.int .u8 0,.int .i64 0,.slice none 0 0] [(0,some 15,.agg c41.toArray),(15,none,v43)] fun c44=>
Zm (.agg c44.toArray) fun c45=>
Qp c45 .exact g10 n27 fun l45 g14 n45=>
kLd g14 l5 (0+0) fun v48=>
Qn g14 l5 0 12 fun c52=>
C Jcj [] g14 n45 fun v46 g15 n46=>
(Qd (ptr l5 (0+0)) fun l _=>g15 l=g14 l)∧(Qd (ptr l5 0) fun l _=>g15 l=g14 l)∧ZdT v46 v48 6 1 none fun v49=>
Qbr C v49 [ptr l45 0,a1,.agg c52.toArray] g15 n46 fun v53 g16 n53=>
Qn g16 l45 (0+0) 15 fun c57=>
kLd g16 l45 (0+16) fun v61=>
Zm (.agg c57.toArray) fun cg17=>
cg17.length=15∧Js g16 l6 0 cg17 fun g17=>
(Qd (ptr l45 (0+16)) fun l _=>g17 l=g16 l)∧Qn g17 l6 0 15 fun r0=>
Jc K (.tuple #[.agg r0.toArray,v61,.int .i64 0]) g17 n53))))))
theorem Jfc (C:CT) (a0 a1 a2:Value) (g:G) (n:Nat) (K:Cont):XfZ C a0 a1 a2 g n K=Zf Tryz.prog C QbY [a0,a1,a2] g n K:=by kernel_rfl
def Jav (C:CT) (K:Cont) (t:Env) (g:G) (n:Nat):Prop:=
Qd (t 4) fun l20 o20=>
Qn g l20 o20 12 fun c20=>
Qd (t 2) fun lg6 og6=>
Zm (.agg c20.toArray) fun cg6=>
cg6.length=12∧Js g lg6 og6 cg6 fun g6=>
Qd (t 2) fun lr0 or0=>
Qn g6 lr0 or0 12 fun r0=>
Jc K (.tuple #[.agg r0.toArray,t 5]) g6 n
def Jcn (C:CT) (a0:Value) (g:G) (n:Nat) (K:Cont):Prop:=
Qp [.int .i64 0,.int .i64 0,.bool false,.bool false,.int .u64 0,.int .u64 0,.int .u64 0,.int .u64 0,.int .u64 0,.int .u64 0,.int .u64 0,.int .u64 0] .exact g n fun l2 g1 n2=>
C J9 [a0] g1 n2 fun v8 g2 n8=>
Zc v8 0 fun v9=>
Zc v8 1 fun v10=>
Qp [.int .i64 0,.int .i64 0,.bool false,.bool false,.int .u64 0,.int .u64 0,.int .u64 0,.int .u64 0,.int .u64 0,.int .u64 0,.int .u64 0,.int .u64 0] .exact g2 n8 fun l4 g3 n4=>
Zm v9 fun cg4=>
cg4.length=12∧Js g3 l4 0 cg4 fun g4=>
Qa v10 (
Qg a0 fun v14=>
Qd v14 fun l15 o15=>
kLd g4 l15 (o15+0) fun v16=>
QA v16 (some (.int .i64 1)) none none 12 fun v17=>
Qg a0 fun v18=>
Qd v18 fun l19 o19=>
kSt g4 l19 (o19+0) v17 fun g5=>
Jav C K (puts (Xi [a0]) [(2,ptr l2 0),(3,.bool false),(7,a0),(8,v8),(6,v8),(9,v9),(10,v10),(4,ptr l4 0),(5,v10),(11,v10),(12,a0),(13,a0),(14,v14),(15,(ptr l15 (o15+0))),(16,v16),(17,v17),(18,v18),(19,(ptr l19 (o19+0)))]) g5 n4) (
Jav C K (puts (Xi [a0]) [(2,ptr l2 0),(3,.bool false),(7,a0),(8,v8),(6,v8),(9,v9),(10,v10),(4,ptr l4 0),(5,v10),(11,v10)]) g4 n4)
theorem JcW (C:CT) (a0:Value) (g:G) (n:Nat) (K:Cont):Jcn C a0 g n K=Zf Tryz.prog C Zw [a0] g n K:=by kernel_rfl
def ZaW (C:CT) (K:Cont) (I_l1:Qm) (t:Env) (g:G) (n:Nat):Prop:=
Jb .int .lss (t 11) (t 10) fun v12=>
Qa v12 (
Jd (t 9) (t 11) 13 fun v13=>
Qd v13 fun l14 o14=>
Qn g l14 o14 13 fun c14=>
Qp [.int .i64 0,.int .i64 0,.int .i64 0,.bool false,.bool false,.int .u64 0,.int .u64 0,.int .u64 0,.int .u64 0,.int .u64 0,.int .u64 0,.int .u64 0,.int .u64 0] .exact g n fun l7 g1 n7=>
Zm (.agg c14.toArray) fun cg2=>
cg2.length=13∧Js g1 l7 0 cg2 fun g2=>
kSt g2 l7 (0+1+1) (t 2) fun g3=>
kLd g3 l7 (0+0) fun v20=>
C Xt [t 0,v20] g3 n7 fun v21 g4 n21=>
Jb .ptr .neq v21 (.pointer none) fun v23=>
Qa v23 (
Qg v21 fun v25=>
Qd v25 fun l26 o26=>
Qn g4 l7 (0+1) 12 fun c28=>
C Xq [(ptr l26 (o26+3)),.agg c28.toArray] g4 n21 fun v29 g5 n29=>
Jb .int .add (t 11) (.int .i64 1) fun v30=>
I_l1 (puts t [(12,v12),(13,v13),(14,.agg c14.toArray),(7,ptr l7 0),(15,t 2),(16,(ptr l7 (0+1))),(17,(ptr l7 (0+1+1))),(18,t 0),(19,(ptr l7 (0+0))),(20,v20),(21,v21),(8,v21),(22,v21),(23,v23),(24,v21),(25,v25),(26,(ptr l26 (o26+3))),(27,(ptr l7 (0+1))),(28,.agg c28.toArray),(29,v29),(30,v30),(11,v30)]) g5 n29) (
Jb .int .add (t 11) (.int .i64 1) fun v30=>
I_l1 (puts t [(12,v12),(13,v13),(14,.agg c14.toArray),(7,ptr l7 0),(15,t 2),(16,(ptr l7 (0+1))),(17,(ptr l7 (0+1+1))),(18,t 0),(19,(ptr l7 (0+0))),(20,v20),(21,v21),(8,v21),(22,v21),(23,v23),(30,v30),(11,v30)]) g4 n21)) (
Jc K (.tuple #[]) g n)
def Jbg (C:CT) (a0 a1 a2:Value) (g:G) (n:Nat) (K:Cont):Prop:=
Qan a1 fun v10=>
lfp (ZaW C K) (puts (Xi [a0,a1,a2]) [(9,a1),(10,v10),(11,.int .i64 0)]) g n
theorem Qb1 (C:CT) (a0 a1 a2:Value) (g:G) (n:Nat) (K:Cont):Jbg C a0 a1 a2 g n K=Zf Tryz.prog C Zp [a0,a1,a2] g n K:=by kernel_rfl
def Xab (C:CT) (K:Cont) (t:Env) (g:G) (n:Nat):Prop:=
Qg (t 0) fun v66=>
Qd v66 fun l67 o67=>
kLd g l67 (o67+0) fun v68=>
Qd (t 3) fun l69 o69=>
kLd g l69 (o69+1) fun v70=>
Qd (t 8) fun l72 o72=>
Qn g l72 o72 8 fun c72=>
C QL [v68,v70,t 7,.agg c72.toArray] g n fun v73 g14 n73=>
Qd (t 3) fun l74 o74=>
Qn g14 l74 o74 12 fun c74=>
Qd (t 6) fun l75 o75=>
Qn g14 l75 o75 11 fun c75=>
C XaG [.agg c74.toArray,.agg c75.toArray,t 7] g14 n73 fun v77 g15 n77=>
Jc K (.tuple #[v77,.int .i64 0]) g15 n77
def QU (C:CT) (K:Cont) (t:Env) (g:G) (n:Nat):Prop:=
Qa (t 59) (
Qd (t 3) fun l63 o63=>
Qn g l63 (o63+4) 8 fun c64=>
Qd (t 8) fun lg13 og13=>
Zm (.agg c64.toArray) fun cg13=>
cg13.length=8∧Js g lg13 og13 cg13 fun g13=>
Xab C K (puts t [(63,(ptr l63 (o63+4))),(64,.agg c64.toArray)]) g13 n) (
Xab C K t g n)
def Jac (C:CT) (K:Cont) (t:Env) (g:G) (n:Nat):Prop:=
Qd (t 3) fun l57 o57=>
kLd g l57 (o57+0) fun v58=>
Jb .int .eql v58 (.int .i64 8) fun v60=>
Qa v60 (
QU C K (puts t [(57,(ptr l57 (o57+0))),(58,v58),(60,v60),(59,v60)]) g n) (
Jb .int .eql v58 (.int .i64 9) fun v61=>
Qa v61 (
QU C K (puts t [(57,(ptr l57 (o57+0))),(58,v58),(60,v60),(59,v60),(61,v61),(59,v61)]) g n) (
Jb .int .eql v58 (.int .i64 10) fun v62=>
QU C K (puts t [(57,(ptr l57 (o57+0))),(58,v58),(60,v60),(59,v60),(61,v61),(59,v61),(62,v62),(59,v62)]) g n))
def Qad (C:CT) (K:Cont) (t:Env) (g:G) (n:Nat):Prop:=
Qa (t 53) (
Qe [.int .u64 0,.int .u64 0,.int .u64 0,.int .u64 0,.int .u64 0,.int .u64 0,.int .u64 0,.int .u64 0] [] fun c56=>
Qd (t 8) fun lg12 og12=>
Zm (.agg c56.toArray) fun cg12=>
cg12.length=8∧Js g lg12 og12 cg12 fun g12=>
Jac C K (puts t [(56,.agg c56.toArray)]) g12 n) (
Jac C K t g n)
def ZbD (C:CT) (a0 a1:Value) (g:G) (n:Nat) (K:Cont):Prop:=
Zm a1 fun c3=>
Qp c3 .exact g n fun l3 g1 n3=>
Jb .ptr .eql a0 (.pointer none) fun v10=>
Qa v10 (
Jc K (.tuple #[.slice none 0 0,.int .i64 1]) g1 n3) (
Qn g1 l3 0 12 fun c12=>
C ZaM [.agg c12.toArray] g1 n3 fun v13 g2 n13=>
kUn .not v13 fun v14=>
Qa v14 (
Jc K (.tuple #[.slice none 0 0,.int .i64 1]) g2 n13) (
kLd g2 l3 (0+0) fun v18=>
C JbT [v18] g2 n13 fun v19 g3 n19=>
kUn .not v19 fun v20=>
Qa v20 (
Jc K (.tuple #[.slice none 0 0,.int .i64 1]) g3 n19) (
kLd g3 l3 (0+1) fun v24=>
C Qs [a0,v24] g3 n19 fun v25 g4 n25=>
Qp [.int .i64 0,.int .i64 0,.int .u64 0,.int .u64 0,.int .u64 0,.int .u64 0,.int .u64 0,.int .u64 0,.int .u64 0,.int .u64 0,.int .i64 0] .exact g4 n25 fun l6 g5 n6=>
Zm v25 fun cg6=>
cg6.length=11∧Js g5 l6 0 cg6 fun g6=>
kLd g6 l3 (0+0) fun v28=>
kLd g6 l6 (0+0) fun v31=>
C Xb5 [] g6 n6 fun v26 g7 n26=>
(Qd (ptr l3 (0+0)) fun l _=>g7 l=g6 l)∧(Qd (ptr l6 (0+0)) fun l _=>g7 l=g6 l)∧ZdT v26 v28 15 10 (some 10) fun v29=>
ZdT v29 v31 10 1 none fun v32=>
Qn g7 l6 (0+2) 8 fun c34=>
Qp [.int .u64 0,.int .u64 0,.int .u64 0,.int .u64 0,.int .u64 0,.int .u64 0,.int .u64 0,.int .u64 0] .exact g7 n26 fun l8 g8 n8=>
Zm (.agg c34.toArray) fun cg9=>
cg9.length=8∧Js g8 l8 0 cg9 fun g9=>
Jb .int .eql v32 (.int .i64 (-1)) fun v37=>
Qa v37 (
Jc K (.tuple #[.slice none 0 0,.int .i64 16]) g9 n8) (
Jb .int .eql v32 (.int .i64 (-2)) fun v39=>
Qa v39 (
Jc K (.tuple #[.slice none 0 0,.int .i64 0]) g9 n8) (
Jb .int .eql v32 (.int .i64 0) fun v41=>
Qa v41 (
Qg a0 fun v43=>
Qd v43 fun l44 o44=>
kLd g9 l44 (o44+0) fun v45=>
kLd g9 l3 (0+1) fun v47=>
C XaA [v45,v47] g9 n8 fun v48 g10 n48=>
Qn g10 l3 0 12 fun c49=>
Qn g10 l6 0 11 fun c50=>
C XaG [.agg c49.toArray,.agg c50.toArray,v32] g10 n48 fun v52 g11 n52=>
Jc K (.tuple #[v52,.int .i64 0]) g11 n52) (
Jb .int .eql v32 (.int .i64 5) fun v54=>
Qa v54 (
Qad C K (puts (Xi [a0,a1]) [(3,ptr l3 0),(4,.slice none 0 0),(5,.int .i64 0),(9,a0),(10,v10),(11,.bool false),(12,.agg c12.toArray),(13,v13),(14,v14),(15,v14),(16,.bool false),(17,(ptr l3 (0+0))),(18,v18),(19,v19),(20,v20),(21,v20),(22,a0),(23,(ptr l3 (0+1))),(24,v24),(25,v25),(6,ptr l6 0),(27,(ptr l3 (0+0))),(28,v28),(30,(ptr l6 (0+0))),(31,v31),(26,v26),(29,v29),(32,v32),(7,v32),(33,(ptr l6 (0+2))),(34,.agg c34.toArray),(8,ptr l8 0),(35,v32),(37,v37),(36,v37),(39,v39),(38,v39),(41,v41),(40,v41),(54,v54),(53,v54)]) g9 n8) (
Jb .int .eql v32 (.int .i64 8) fun v55=>
Qad C K (puts (Xi [a0,a1]) [(3,ptr l3 0),(4,.slice none 0 0),(5,.int .i64 0),(9,a0),(10,v10),(11,.bool false),(12,.agg c12.toArray),(13,v13),(14,v14),(15,v14),(16,.bool false),(17,(ptr l3 (0+0))),(18,v18),(19,v19),(20,v20),(21,v20),(22,a0),(23,(ptr l3 (0+1))),(24,v24),(25,v25),(6,ptr l6 0),(27,(ptr l3 (0+0))),(28,v28),(30,(ptr l6 (0+0))),(31,v31),(26,v26),(29,v29),(32,v32),(7,v32),(33,(ptr l6 (0+2))),(34,.agg c34.toArray),(8,ptr l8 0),(35,v32),(37,v37),(36,v37),(39,v39),(38,v39),(41,v41),(40,v41),(54,v54),(53,v54),(55,v55),(53,v55)]) g9 n8)))))))
theorem Xcc (C:CT) (a0 a1:Value) (g:G) (n:Nat) (K:Cont):ZbD C a0 a1 g n K=Zf Tryz.prog C Qay [a0,a1] g n K:=by kernel_rfl
def Qb6 (C:CT) (a0 a1:Value) (g:G) (n:Nat) (K:Cont):Prop:=
Zm a1 fun c3=>
Qp c3 .exact g n fun l3 g1 n3=>
Jb .ptr .eql a0 (.pointer none) fun v7=>
Qa v7 (
Jc K (.int .i64 1) g1 n3) (
Qn g1 l3 0 12 fun c9=>
C ZaM [.agg c9.toArray] g1 n3 fun v10 g2 n10=>
kUn .not v10 fun v11=>
Qa v11 (
Jc K (.int .i64 11) g2 n10) (
Qg a0 fun v14=>
Qd v14 fun l15 o15=>
kLd g2 l15 (o15+0) fun v16=>
Qan v16 fun v17=>
Jb .int .geq v17 (.int .i64 1000) fun v18=>
Qa v18 (
Jc K (.int .i64 13) g2 n10) (
Qg a0 fun v21=>
Qd v21 fun l22 o22=>
kLd g2 l22 (o22+0) fun v23=>
Qn g2 l3 0 12 fun c24=>
Qe (reps 1 [.int .i64 0,.int .i64 0,.bool false,.bool false,.int .u64 0,.int .u64 0,.int .u64 0,.int .u64 0,.int .u64 0,.int .u64 0,.int .u64 0,.int .u64 0]) [(0,some 12,.agg c24.toArray)] fun c25=>
Qp c25 .exact g2 n10 fun l25 g3 n25=>
(Qd (ptr l22 (o22+0)) fun l _=>g3 l=g2 l)∧Qx v23 (.slice (some ⟨l25,0,none⟩) 1 1) 12 88 g3 n25 fun v26 g4 n26=>
Qg a0 fun v27=>
Qd v27 fun l28 o28=>
kSt g4 l28 (o28+0) v26 fun g5=>
Jc K (.int .i64 0) g5 n26)))
theorem JcD (C:CT) (a0 a1:Value) (g:G) (n:Nat) (K:Cont):Qb6 C a0 a1 g n K=Zf Tryz.prog C Xq [a0,a1] g n K:=by kernel_rfl
def Qb5 (C:CT) (a0:Value) (g:G) (n:Nat) (K:Cont):Prop:=
Qp [.int .u64 0,.int .u64 0,.int .u64 0,.int .u64 0,.int .u64 0,.int .u64 0,.int .u64 0,.int .u64 0] .exact g n fun l2 g1 n2=>
Jb .ptr .eql a0 (.pointer none) fun v4=>
Qa v4 (
Qe [.int .u64 0,.int .u64 0,.int .u64 0,.int .u64 0,.int .u64 0,.int .u64 0,.int .u64 0,.int .u64 0] [] fun c5=>
Zm (.agg c5.toArray) fun cg2=>
cg2.length=8∧Js g1 l2 0 cg2 fun g2=>
Qn g2 l2 0 8 fun r0=>
Jc K (.agg r0.toArray) g2 n2) (
Qg a0 fun v7=>
Qd v7 fun l8 o8=>
Qn g1 l8 (o8+1) 8 fun c9=>
Zm (.agg c9.toArray) fun cg3=>
cg3.length=8∧Js g1 l2 0 cg3 fun g3=>
Qn g3 l2 0 8 fun r0=>
Jc K (.agg r0.toArray) g3 n2)
theorem XcJ (C:CT) (a0:Value) (g:G) (n:Nat) (K:Cont):Qb5 C a0 g n K=Zf Tryz.prog C ZaN [a0] g n K:=by kernel_rfl
def ZaI (C:CT) (K:Cont) (t:Env) (g:G) (n:Nat):Prop:=
Qg (t 9) fun v133=>
Qd v133 fun l134 o134=>
Qn g l134 (o134+0) 15 fun c135=>
Qg (t 9) fun v137=>
Qd v137 fun l138 o138=>
kLd g l138 (o138+16) fun v139=>
Qd (t 6) fun lg27 og27=>
Zm (.agg c135.toArray) fun cg27=>
cg27.length=15∧Js g lg27 og27 cg27 fun g27=>
(Qd (ptr l138 (o138+16)) fun l _=>g27 l=g l)∧Qd (t 6) fun lr0 or0=>
Qn g27 lr0 or0 15 fun r0=>
Jc K (.tuple #[.agg r0.toArray,v139,.int .i64 0]) g27 n
def ZaX (C:CT) (K:Cont) (t:Env) (g:G) (n:Nat):Prop:=
Qg (t 9) fun v99=>
Qd v99 fun l100 o100=>
kLd g l100 (o100+0+14) fun v102=>
Jb .int .neq v102 (.int .u8 0) fun v103=>
Qa v103 (
Qg (t 9) fun v105=>
Qd v105 fun l106 o106=>
Qn g l106 (o106+0) 15 fun c107=>
Qd (t 6) fun lg24 og24=>
Zm (.agg c107.toArray) fun cg24=>
cg24.length=15∧Js g lg24 og24 cg24 fun g24=>
Qd (t 6) fun lr0 or0=>
Qn g24 lr0 or0 15 fun r0=>
Jc K (.tuple #[.agg r0.toArray,.slice none 0 0,.int .i64 0]) g24 n) (
Qg (t 9) fun v109=>
Qd v109 fun l110 o110=>
kLd g l110 (o110+0+13) fun v112=>
Qg (t 9) fun v114=>
Qd v114 fun l115 o115=>
kLd g l115 (o115+0+12) fun v117=>
Jb .int .eql v117 (.int .i64 1) fun v119=>
Qa v119 (
C Qaf [t 9] g n fun v121 g25 n121=>
C Qae [t 9,v112] g25 n121 fun v124 g26 n124=>
ZaI C K (puts t [(98,t 9),(99,v99),(100,(ptr l100 (o100+0))),(101,(ptr l100 (o100+0+14))),(102,v102),(103,v103),(108,t 9),(109,v109),(110,(ptr l110 (o110+0))),(111,(ptr l110 (o110+0+13))),(112,v112),(10,v112),(113,t 9),(114,v114),(115,(ptr l115 (o115+0))),(116,(ptr l115 (o115+0+12))),(117,v117),(119,v119),(118,v119),(120,t 9),(121,v121),(122,t 9),(123,v112),(124,v124)]) g26 n124) (
Jb .int .eql v117 (.int .i64 2) fun v126=>
Qa v126 (
C Qaf [t 9] g n fun v128 g28 n128=>
C Jaa [t 9,v112,.int .i64 10] g28 n128 fun v131 g29 n131=>
ZaI C K (puts t [(98,t 9),(99,v99),(100,(ptr l100 (o100+0))),(101,(ptr l100 (o100+0+14))),(102,v102),(103,v103),(108,t 9),(109,v109),(110,(ptr l110 (o110+0))),(111,(ptr l110 (o110+0+13))),(112,v112),(10,v112),(113,t 9),(114,v114),(115,(ptr l115 (o115+0))),(116,(ptr l115 (o115+0+12))),(117,v117),(119,v119),(118,v119),(126,v126),(125,v126),(127,t 9),(128,v128),(129,t 9),(130,v112),(131,v131)]) g29 n131) (
ZaI C K (puts t [(98,t 9),(99,v99),(100,(ptr l100 (o100+0))),(101,(ptr l100 (o100+0+14))),(102,v102),(103,v103),(108,t 9),(109,v109),(110,(ptr l110 (o110+0))),(111,(ptr l110 (o110+0+13))),(112,v112),(10,v112),(113,t 9),(114,v114),(115,(ptr l115 (o115+0))),(116,(ptr l115 (o115+0+12))),(117,v117),(119,v119),(118,v119),(126,v126),(125,v126)]) g n)))
def QaX (C:CT) (K:Cont) (t:Env) (g:G) (n:Nat):Prop:=
Qg (t 9) fun v75=>
Qd v75 fun l76 o76=>
kLd g l76 (o76+0+11) fun v78=>
C Jt [t 1] g n fun v80 g20 n80=>
(Qd (ptr l76 (o76+0+11)) fun l _=>g20 l=g l)∧Jb .int .andNot v78 v80 fun v81=>
Qg (t 9) fun v82=>
Qd v82 fun l83 o83=>
kSt g20 l83 (o83+0+11) v81 fun g21=>
Qd (t 5) fun l85 o85=>
kLd g21 l85 (o85+3) fun v86=>
Qa v86 (
Qg (t 9) fun v88=>
Qd v88 fun l89 o89=>
kLd g21 l89 (o89+0+11) fun v91=>
C Jt [t 1] g21 n80 fun v93 g22 n93=>
(Qd (ptr l89 (o89+0+11)) fun l _=>g22 l=g21 l)∧Jb .int .or v91 v93 fun v94=>
Qg (t 9) fun v95=>
Qd v95 fun l96 o96=>
kSt g22 l96 (o96+0+11) v94 fun g23=>
ZaX C K (puts t [(74,t 9),(75,v75),(76,(ptr l76 (o76+0))),(77,(ptr l76 (o76+0+11))),(78,v78),(79,t 1),(80,v80),(81,v81),(82,v82),(83,(ptr l83 (o83+0))),(84,(ptr l83 (o83+0+11))),(85,(ptr l85 (o85+3))),(86,v86),(87,t 9),(88,v88),(89,(ptr l89 (o89+0))),(90,(ptr l89 (o89+0+11))),(91,v91),(92,t 1),(93,v93),(94,v94),(95,v95),(96,(ptr l96 (o96+0))),(97,(ptr l96 (o96+0+11)))]) g23 n93) (
ZaX C K (puts t [(74,t 9),(75,v75),(76,(ptr l76 (o76+0))),(77,(ptr l76 (o76+0+11))),(78,v78),(79,t 1),(80,v80),(81,v81),(82,v82),(83,(ptr l83 (o83+0))),(84,(ptr l83 (o83+0+11))),(85,(ptr l85 (o85+3))),(86,v86)]) g21 n80)
def Xdx (C:CT) (a0 a1 a2:Value) (g:G) (n:Nat) (K:Cont):Prop:=
Zm a0 fun c3=>
Qp c3 .exact g n fun l3 g1 n3=>
Zm a2 fun c5=>
Qp c5 .exact g1 n3 fun l5 g2 n5=>
Qp [.bool false,.bool false,.int .u64 0,.int .u64 0,.int .u64 0,.int .u64 0,.int .u64 0,.int .u64 0,.int .u64 0,.int .u64 0,.int .i64 0,.int .u8 0,.int .i64 0,.int .i64 0,.int .u8 0] .exact g2 n5 fun l6 g3 n6=>
Qn g3 l3 0 15 fun c12=>
C Qa2 [.agg c12.toArray] g3 n6 fun v13 g4 n13=>
kUn .not v13 fun v14=>
Qa v14 (
Qe [.bool false,.bool false,.int .u64 0,.int .u64 0,.int .u64 0,.int .u64 0,.int .u64 0,.int .u64 0,.int .u64 0,.int .u64 0,.int .i64 0,.int .u8 0,.int .i64 0,.int .i64 0,.int .u8 0] [] fun c31=>
Zm (.agg c31.toArray) fun cg5=>
cg5.length=15∧Js g4 l6 0 cg5 fun g5=>
Qn g5 l6 0 15 fun r0=>
Jc K (.tuple #[.agg r0.toArray,.slice none 0 0,.int .i64 1]) g5 n13) (
C JaN [a1] g4 n13 fun v17 g6 n17=>
kUn .not v17 fun v18=>
Qa v18 (
Qe [.bool false,.bool false,.int .u64 0,.int .u64 0,.int .u64 0,.int .u64 0,.int .u64 0,.int .u64 0,.int .u64 0,.int .u64 0,.int .i64 0,.int .u8 0,.int .i64 0,.int .i64 0,.int .u8 0] [] fun c31=>
Zm (.agg c31.toArray) fun cg7=>
cg7.length=15∧Js g6 l6 0 cg7 fun g7=>
Qn g7 l6 0 15 fun r0=>
Jc K (.tuple #[.agg r0.toArray,.slice none 0 0,.int .i64 1]) g7 n17) (
Qn g6 l5 0 12 fun c21=>
C ZaM [.agg c21.toArray] g6 n17 fun v22 g8 n22=>
kUn .not v22 fun v23=>
Qa v23 (
Qe [.bool false,.bool false,.int .u64 0,.int .u64 0,.int .u64 0,.int .u64 0,.int .u64 0,.int .u64 0,.int .u64 0,.int .u64 0,.int .i64 0,.int .u8 0,.int .i64 0,.int .i64 0,.int .u8 0] [] fun c31=>
Zm (.agg c31.toArray) fun cg9=>
cg9.length=15∧Js g8 l6 0 cg9 fun g9=>
Qn g9 l6 0 15 fun r0=>
Jc K (.tuple #[.agg r0.toArray,.slice none 0 0,.int .i64 1]) g9 n22) (
kLd g8 l5 (0+0) fun v27=>
C Jbf [v27] g8 n22 fun v28 g10 n28=>
kUn .not v28 fun v29=>
Qa v29 (
Qe [.bool false,.bool false,.int .u64 0,.int .u64 0,.int .u64 0,.int .u64 0,.int .u64 0,.int .u64 0,.int .u64 0,.int .u64 0,.int .i64 0,.int .u8 0,.int .i64 0,.int .i64 0,.int .u8 0] [] fun c31=>
Zm (.agg c31.toArray) fun cg11=>
cg11.length=15∧Js g10 l6 0 cg11 fun g11=>
Qn g11 l6 0 15 fun r0=>
Jc K (.tuple #[.agg r0.toArray,.slice none 0 0,.int .i64 1]) g11 n28) (
kLd g10 l3 (0+12) fun v34=>
Jb .int .eql v34 (.int .i64 0) fun v35=>
Qa v35 (
Qe [.bool false,.bool false,.int .u64 0,.int .u64 0,.int .u64 0,.int .u64 0,.int .u64 0,.int .u64 0,.int .u64 0,.int .u64 0,.int .i64 0,.int .u8 0,.int .i64 0,.int .i64 0,.int .u8 0] [] fun c43=>
Zm (.agg c43.toArray) fun cg12=>
cg12.length=15∧Js g10 l6 0 cg12 fun g12=>
Qn g12 l6 0 15 fun r0=>
Jc K (.tuple #[.agg r0.toArray,.slice none 0 0,.int .i64 16]) g12 n28) (
kLd g10 l3 (0+14) fun v38=>
C Qbs [v38,a1] g10 n28 fun v40 g13 n40=>
kUn .not v40 fun v41=>
Qa v41 (
Qe [.bool false,.bool false,.int .u64 0,.int .u64 0,.int .u64 0,.int .u64 0,.int .u64 0,.int .u64 0,.int .u64 0,.int .u64 0,.int .i64 0,.int .u8 0,.int .i64 0,.int .i64 0,.int .u8 0] [] fun c43=>
Zm (.agg c43.toArray) fun cg14=>
cg14.length=15∧Js g13 l6 0 cg14 fun g14=>
Qn g14 l6 0 15 fun r0=>
Jc K (.tuple #[.agg r0.toArray,.slice none 0 0,.int .i64 16]) g14 n40) (
Qn g13 l3 0 15 fun c44=>
kLd g13 l5 (0+1) fun v46=>
Qe [.bool false,.bool false,.int .u64 0,.int .u64 0,.int .u64 0,.int .u64 0,.int .u64 0,.int .u64 0,.int .u64 0,.int .u64 0,.int .i64 0,.int .u8 0,.int .i64 0,.int .i64 0,.int .u8 0,.int .i64 0,.slice none 0 0] [(0,some 15,.agg c44.toArray),(15,none,v46)] fun c47=>
Zm (.agg c47.toArray) fun c48=>
Qp c48 .exact g13 n40 fun l48 g15 n48=>
kLd g15 l48 (0+0+14) fun v53=>
C Jt [a1] g15 n48 fun v55 g16 n55=>
(Qd (ptr l48 (0+0+14)) fun l _=>g16 l=g15 l)∧Jb .int .andNot v53 v55 fun v56=>
kSt g16 l48 (0+0+14) v56 fun g17=>
Qn g17 l5 0 12 fun c61=>
C Jaw [ptr l48 0,.agg c61.toArray] g17 n55 fun v62 g18 n62=>
kLd g18 l48 (0+0+10) fun v67=>
Jb .int .eql v67 a1 fun v69=>
Qa v69 (
kSt g18 l48 (0+0+10) (.int .i64 (-1)) fun g19=>
QaX C K (puts (Xi [a0,a1,a2]) [(3,ptr l3 0),(5,ptr l5 0),(6,ptr l6 0),(7,.slice none 0 0),(8,.int .i64 0),(12,.agg c12.toArray),(13,v13),(14,v14),(15,.bool false),(16,a1),(17,v17),(18,v18),(19,v18),(20,.bool false),(21,.agg c21.toArray),(22,v22),(23,v23),(24,v23),(25,.bool false),(26,(ptr l5 (0+0))),(27,v27),(28,v28),(29,v29),(30,v29),(11,v29),(33,(ptr l3 (0+12))),(34,v34),(35,v35),(36,.bool false),(37,(ptr l3 (0+14))),(38,v38),(39,a1),(40,v40),(41,v41),(42,v41),(32,v41),(44,.agg c44.toArray),(45,(ptr l5 (0+1))),(46,v46),(47,.agg c47.toArray),(48,ptr l48 0),(9,ptr l48 0),(49,ptr l48 0),(50,ptr l48 0),(51,(ptr l48 (0+0))),(52,(ptr l48 (0+0+14))),(53,v53),(54,a1),(55,v55),(56,v56),(57,ptr l48 0),(58,(ptr l48 (0+0))),(59,(ptr l48 (0+0+14))),(60,ptr l48 0),(61,.agg c61.toArray),(62,v62),(63,ptr l48 0),(64,ptr l48 0),(65,(ptr l48 (0+0))),(66,(ptr l48 (0+0+10))),(67,v67),(68,a1),(69,v69),(70,ptr l48 0),(71,ptr l48 0),(72,(ptr l48 (0+0))),(73,(ptr l48 (0+0+10)))]) g19 n62) (
QaX C K (puts (Xi [a0,a1,a2]) [(3,ptr l3 0),(5,ptr l5 0),(6,ptr l6 0),(7,.slice none 0 0),(8,.int .i64 0),(12,.agg c12.toArray),(13,v13),(14,v14),(15,.bool false),(16,a1),(17,v17),(18,v18),(19,v18),(20,.bool false),(21,.agg c21.toArray),(22,v22),(23,v23),(24,v23),(25,.bool false),(26,(ptr l5 (0+0))),(27,v27),(28,v28),(29,v29),(30,v29),(11,v29),(33,(ptr l3 (0+12))),(34,v34),(35,v35),(36,.bool false),(37,(ptr l3 (0+14))),(38,v38),(39,a1),(40,v40),(41,v41),(42,v41),(32,v41),(44,.agg c44.toArray),(45,(ptr l5 (0+1))),(46,v46),(47,.agg c47.toArray),(48,ptr l48 0),(9,ptr l48 0),(49,ptr l48 0),(50,ptr l48 0),(51,(ptr l48 (0+0))),(52,(ptr l48 (0+0+14))),(53,v53),(54,a1),(55,v55),(56,v56),(57,ptr l48 0),(58,(ptr l48 (0+0))),(59,(ptr l48 (0+0+14))),(60,ptr l48 0),(61,.agg c61.toArray),(62,v62),(63,ptr l48 0),(64,ptr l48 0),(65,(ptr l48 (0+0))),(66,(ptr l48 (0+0+10))),(67,v67),(68,a1),(69,v69)]) g18 n62)))))))
theorem XdP (C:CT) (a0 a1 a2:Value) (g:G) (n:Nat) (K:Cont):Xdx C a0 a1 a2 g n K=Zf Tryz.prog C JaY [a0,a1,a2] g n K:=by kernel_rfl
def ZbB (C:CT) (a0 a1:Value) (g:G) (n:Nat) (K:Cont):Prop:=
Jb .ptr .neq a0 (.pointer none) fun v6=>
Qa v6 (
Jb .int .geq a1 (.int .i64 0) fun v9=>
Qa v9 (
Qg a0 fun v14=>
Qd v14 fun l15 o15=>
kLd g l15 (o15+8) fun v16=>
Qan v16 fun v17=>
Jb .int .lss a1 v17 fun v18=>
Jc K v18 g n) (
Jc K (.bool false) g n)) (
Jc K (.bool false) g n)
theorem Zcg (C:CT) (a0 a1:Value) (g:G) (n:Nat) (K:Cont):ZbB C a0 a1 g n K=Zf Tryz.prog C Xu [a0,a1] g n K:=by kernel_rfl
def Zek (C:CT) (a0:Value) (g:G) (n:Nat) (K:Cont):Prop:=
Zm a0 fun c1=>
Qp c1 .exact g n fun l1 g1 n1=>
Qn g1 l1 0 15 fun c3=>
C Qa2 [.agg c3.toArray] g1 n1 fun v4 g2 n4=>
Qa v4 (
kLd g2 l1 (0+12) fun v7=>
Jb .int .eql v7 (.int .i64 4) fun v8=>
Qa v8 (
kLd g2 l1 (0+14) fun v17=>
Jb .int .eql v17 (.int .u8 0) fun v18=>
Jc K v18 g2 n4) (
kLd g2 l1 (0+12) fun v11=>
Jb .int .eql v11 (.int .i64 5) fun v12=>
Qa v12 (
kLd g2 l1 (0+14) fun v17=>
Jb .int .eql v17 (.int .u8 0) fun v18=>
Jc K v18 g2 n4) (
Jc K (.bool false) g2 n4))) (
Jc K (.bool false) g2 n4)
theorem Xeg (C:CT) (a0:Value) (g:G) (n:Nat) (K:Cont):Zek C a0 g n K=Zf Tryz.prog C Xa9 [a0] g n K:=by kernel_rfl
def Xbi (C:CT) (a0 a1:Value) (g:G) (n:Nat) (K:Cont):Prop:=
Qg a0 fun v6=>
Qd v6 fun l7 o7=>
kLd g l7 (o7+8) fun v8=>
Jd v8 a1 15 fun v10=>
Qd v10 fun l11 o11=>
kLd g l11 (o11+1) fun v12=>
kUn .not v12 fun v13=>
Qa v13 (
Jc K (.int .i64 0) g n) (
Qg a0 fun v15=>
Qd v15 fun l16 o16=>
kLd g l16 (o16+9) fun v17=>
Qg a0 fun v20=>
Qd v20 fun l21 o21=>
kLd g l21 (o21+8) fun v22=>
Jd v22 a1 15 fun v24=>
Qd v24 fun l25 o25=>
Qn g l25 (o25+2) 8 fun c26=>
C Qt [v17,a1,.agg c26.toArray] g n fun v27 g1 n27=>
Jc K v27 g1 n27)
theorem Jb3 (C:CT) (a0 a1:Value) (g:G) (n:Nat) (K:Cont):Xbi C a0 a1 g n K=Zf Tryz.prog C Jar [a0,a1] g n K:=by kernel_rfl
def XdK (C:CT) (a0:Value) (g:G) (n:Nat) (K:Cont):Prop:=
Zm a0 fun c1=>
Qp c1 .exact g n fun l1 g1 n1=>
Qp [.bool false,.bool false,.int .u64 0,.int .u64 0,.int .u64 0,.int .u64 0,.int .u64 0,.int .u64 0,.int .u64 0,.int .u64 0,.int .i64 0,.int .u8 0,.int .i64 0,.int .i64 0,.int .u8 0] .exact g1 n1 fun l2 g2 n2=>
Qn g2 l1 0 15 fun c7=>
C Xa9 [.agg c7.toArray] g2 n2 fun v8 g3 n8=>
kUn .not v8 fun v9=>
Qa v9 (
Qe [.bool false,.bool false,.int .u64 0,.int .u64 0,.int .u64 0,.int .u64 0,.int .u64 0,.int .u64 0,.int .u64 0,.int .u64 0,.int .i64 0,.int .u8 0,.int .i64 0,.int .i64 0,.int .u8 0] [] fun c10=>
Zm (.agg c10.toArray) fun cg4=>
cg4.length=15∧Js g3 l2 0 cg4 fun g4=>
Qn g4 l2 0 15 fun r0=>
Jc K (.tuple #[.agg r0.toArray,.slice none 0 0,.int .i64 16]) g4 n8) (
Qn g3 l1 0 15 fun c11=>
Qe [.bool false,.bool false,.int .u64 0,.int .u64 0,.int .u64 0,.int .u64 0,.int .u64 0,.int .u64 0,.int .u64 0,.int .u64 0,.int .i64 0,.int .u8 0,.int .i64 0,.int .i64 0,.int .u8 0,.int .i64 0,.slice none 0 0] [(0,some 15,.agg c11.toArray)] fun c12=>
Zm (.agg c12.toArray) fun c13=>
Qp c13 .exact g3 n8 fun l13 g5 n13=>
kSt g5 l13 (0+0+1) (.bool false) fun g6=>
kLd g6 l1 (0+13) fun v19=>
C Qaf [ptr l13 0] g6 n13 fun v21 g7 n21=>
C QM [ptr l13 0,v19,.int .i64 14] g7 n21 fun v24 g8 n24=>
Qn g8 l13 (0+0) 15 fun c28=>
kLd g8 l13 (0+16) fun v32=>
Zm (.agg c28.toArray) fun cg9=>
cg9.length=15∧Js g8 l2 0 cg9 fun g9=>
(Qd (ptr l13 (0+16)) fun l _=>g9 l=g8 l)∧Qn g9 l2 0 15 fun r0=>
Jc K (.tuple #[.agg r0.toArray,v32,.int .i64 0]) g9 n24)
theorem XdU (C:CT) (a0:Value) (g:G) (n:Nat) (K:Cont):XdK C a0 g n K=Zf Tryz.prog C Qbv [a0] g n K:=by kernel_rfl
def Xbk (C:CT) (a0 a1:Value) (g:G) (n:Nat) (K:Cont):Prop:=
C Xu [a0,a1] g n fun v7 g1 n7=>
kUn .not v7 fun v8=>
Qa v8 (
Jc K (.int .i64 1) g1 n7) (
Qg a0 fun v10=>
Qd v10 fun l11 o11=>
kLd g1 l11 (o11+9) fun v12=>
C Xr [v12,a1] g1 n7 fun v14 g2 n14=>
Jc K v14 g2 n14)
theorem Zb2 (C:CT) (a0 a1:Value) (g:G) (n:Nat) (K:Cont):Xbk C a0 a1 g n K=Zf Tryz.prog C J6 [a0,a1] g n K:=by kernel_rfl
def ZcP (C:CT) (a0 a1 a2:Value) (g:G) (n:Nat) (K:Cont):Prop:=
Jb .int .geq a0 a1 fun v9=>
Qa v9 (
Jb .int .leq a0 a2 fun v13=>
Jc K v13 g n) (
Jc K (.bool false) g n)
theorem Qde (C:CT) (a0 a1 a2:Value) (g:G) (n:Nat) (K:Cont):ZcP C a0 a1 a2 g n K=Zf Tryz.prog C Xf [a0,a1,a2] g n K:=by kernel_rfl
def Zeo (C:CT) (a0 a1:Value) (g:G) (n:Nat) (K:Cont):Prop:=
C JbL [a0,a1] g n fun v11 g1 n11=>
Zc v11 0 fun v12=>
Zc v11 1 fun v13=>
Jb .int .neq v13 (.int .i64 0) fun v15=>
Qa v15 (
Jc K (.tuple #[.pointer none,v13]) g1 n11) (
Qe [.pointer none] [(0,none,v12)] fun c18=>
Zm (.agg c18.toArray) fun c19=>
Qp c19 .exact g1 n11 fun l19 g2 n19=>
Jc K (.tuple #[ptr l19 0,.int .i64 0]) g2 n19)
theorem Xeb (C:CT) (a0 a1:Value) (g:G) (n:Nat) (K:Cont):Zeo C a0 a1 g n K=Zf Tryz.prog C ZbV [a0,a1] g n K:=by kernel_rfl
def ZE (C:CT) (K:Cont) (t:Env) (g:G) (n:Nat):Prop:=
Zbk (t 104) fun b108=>
Qa (bif b108 then (t 107) else (.bool false)) (
kUn .not (t 3) fun v111=>
Qa v111 (
Jc K (.bool true) g n) (
Qd (t 1) fun l113 o113=>
kLd g l113 (o113+4) fun v114=>
Jb .int .geq v114 (.int .i64 0) fun v115=>
Jc K v115 g n)) (
Jc K (.bool false) g n)
def Q7 (C:CT) (K:Cont) (t:Env) (g:G) (n:Nat):Prop:=
Zbk (t 91) fun b95=>
Qa (bif b95 then (.bool true) else (t 94)) (
Qd (t 1) fun l101 o101=>
kLd g l101 (o101+4) fun v102=>
Jb .int .geq v102 (.int .i64 (-2147483648)) fun v103=>
Qa v103 (
Qd (t 1) fun l105 o105=>
kLd g l105 (o105+4) fun v106=>
Jb .int .lss v106 (.int .i64 2147483648) fun v107=>
ZE C K (puts t [(95,(bif b95 then (.bool true) else (t 94))),(96,.bool true),(97,undef),(98,undef),(99,undef),(100,.bool true),(3,.bool true),(101,(ptr l101 (o101+4))),(102,v102),(103,v103),(104,.bool true),(105,(ptr l105 (o105+4))),(106,v106),(107,v107)]) g n) (
ZE C K (puts t [(95,(bif b95 then (.bool true) else (t 94))),(96,.bool true),(97,undef),(98,undef),(99,undef),(100,.bool true),(3,.bool true),(101,(ptr l101 (o101+4))),(102,v102),(103,v103),(104,.bool false),(105,undef),(106,undef),(107,undef)]) g n)) (
Qd (t 1) fun l97 o97=>
kLd g l97 (o97+0) fun v98=>
Jb .int .eql v98 (.int .i64 20) fun v99=>
Qd (t 1) fun l101 o101=>
kLd g l101 (o101+4) fun v102=>
Jb .int .geq v102 (.int .i64 (-2147483648)) fun v103=>
Qa v103 (
Qd (t 1) fun l105 o105=>
kLd g l105 (o105+4) fun v106=>
Jb .int .lss v106 (.int .i64 2147483648) fun v107=>
ZE C K (puts t [(95,(bif b95 then (.bool true) else (t 94))),(96,.bool false),(97,(ptr l97 (o97+0))),(98,v98),(99,v99),(100,v99),(3,v99),(101,(ptr l101 (o101+4))),(102,v102),(103,v103),(104,.bool true),(105,(ptr l105 (o105+4))),(106,v106),(107,v107)]) g n) (
ZE C K (puts t [(95,(bif b95 then (.bool true) else (t 94))),(96,.bool false),(97,(ptr l97 (o97+0))),(98,v98),(99,v99),(100,v99),(3,v99),(101,(ptr l101 (o101+4))),(102,v102),(103,v103),(104,.bool false),(105,undef),(106,undef),(107,undef)]) g n))
def QE (C:CT) (K:Cont) (t:Env) (g:G) (n:Nat):Prop:=
Zbk (t 86) fun b90=>
Qa (bif b90 then (.bool true) else (t 89)) (
Q7 C K (puts t [(90,(bif b90 then (.bool true) else (t 89))),(91,.bool true),(92,undef),(93,undef),(94,undef)]) g n) (
Qd (t 1) fun l92 o92=>
kLd g l92 (o92+0) fun v93=>
Jb .int .eql v93 (.int .i64 19) fun v94=>
Q7 C K (puts t [(90,(bif b90 then (.bool true) else (t 89))),(91,.bool false),(92,(ptr l92 (o92+0))),(93,v93),(94,v94)]) g n)
def ZN (C:CT) (K:Cont) (t:Env) (g:G) (n:Nat):Prop:=
Zbk (t 54) fun b64=>
Qa (bif b64 then (.bool true) else (t 63)) (
Jc K (.bool false) g n) (
Qd (t 1) fun l66 o66=>
kLd g l66 (o66+0) fun v67=>
C Jr [v67,.int .u8 67] g n fun v68 g4 n68=>
kUn .not v68 fun v69=>
Qa v69 (
Qd (t 1) fun l71 o71=>
kLd g4 l71 (o71+3) fun v72=>
Jb .int .neq v72 (.int .i64 0) fun v73=>
Qa v73 (
Jc K (.bool false) g4 n68) (
Qd (t 1) fun l76 o76=>
kLd g4 l76 (o76+0) fun v77=>
C Jr [v77,.int .u8 73] g4 n68 fun v78 g5 n78=>
kUn .not v78 fun v79=>
Qa v79 (
Qd (t 1) fun l80 o80=>
kLd g5 l80 (o80+4) fun v81=>
Jb .int .eql v81 (.int .i64 0) fun v82=>
Jc K v82 g5 n78) (
Qd (t 1) fun l83 o83=>
kLd g5 l83 (o83+0) fun v84=>
Jb .int .eql v84 (.int .i64 17) fun v85=>
Qa v85 (
QE C K (puts t [(64,(bif b64 then (.bool true) else (t 63))),(65,.bool false),(66,(ptr l66 (o66+0))),(67,v67),(68,v68),(69,v69),(70,.bool true),(71,(ptr l71 (o71+3))),(72,v72),(73,v73),(74,v73),(75,v73),(76,(ptr l76 (o76+0))),(77,v77),(78,v78),(79,v79),(83,(ptr l83 (o83+0))),(84,v84),(85,v85),(86,.bool true),(87,undef),(88,undef),(89,undef)]) g5 n78) (
Qd (t 1) fun l87 o87=>
kLd g5 l87 (o87+0) fun v88=>
Jb .int .eql v88 (.int .i64 18) fun v89=>
QE C K (puts t [(64,(bif b64 then (.bool true) else (t 63))),(65,.bool false),(66,(ptr l66 (o66+0))),(67,v67),(68,v68),(69,v69),(70,.bool true),(71,(ptr l71 (o71+3))),(72,v72),(73,v73),(74,v73),(75,v73),(76,(ptr l76 (o76+0))),(77,v77),(78,v78),(79,v79),(83,(ptr l83 (o83+0))),(84,v84),(85,v85),(86,.bool false),(87,(ptr l87 (o87+0))),(88,v88),(89,v89)]) g5 n78)))) (
Qd (t 1) fun l76 o76=>
kLd g4 l76 (o76+0) fun v77=>
C Jr [v77,.int .u8 73] g4 n68 fun v78 g6 n78=>
kUn .not v78 fun v79=>
Qa v79 (
Qd (t 1) fun l80 o80=>
kLd g6 l80 (o80+4) fun v81=>
Jb .int .eql v81 (.int .i64 0) fun v82=>
Jc K v82 g6 n78) (
Qd (t 1) fun l83 o83=>
kLd g6 l83 (o83+0) fun v84=>
Jb .int .eql v84 (.int .i64 17) fun v85=>
Qa v85 (
QE C K (puts t [(64,(bif b64 then (.bool true) else (t 63))),(65,.bool false),(66,(ptr l66 (o66+0))),(67,v67),(68,v68),(69,v69),(70,.bool false),(71,undef),(72,undef),(73,undef),(74,.bool false),(75,.bool false),(76,(ptr l76 (o76+0))),(77,v77),(78,v78),(79,v79),(83,(ptr l83 (o83+0))),(84,v84),(85,v85),(86,.bool true),(87,undef),(88,undef),(89,undef)]) g6 n78) (
Qd (t 1) fun l87 o87=>
kLd g6 l87 (o87+0) fun v88=>
Jb .int .eql v88 (.int .i64 18) fun v89=>
QE C K (puts t [(64,(bif b64 then (.bool true) else (t 63))),(65,.bool false),(66,(ptr l66 (o66+0))),(67,v67),(68,v68),(69,v69),(70,.bool false),(71,undef),(72,undef),(73,undef),(74,.bool false),(75,.bool false),(76,(ptr l76 (o76+0))),(77,v77),(78,v78),(79,v79),(83,(ptr l83 (o83+0))),(84,v84),(85,v85),(86,.bool false),(87,(ptr l87 (o87+0))),(88,v88),(89,v89)]) g6 n78))))
def JN (C:CT) (K:Cont) (t:Env) (g:G) (n:Nat):Prop:=
Zbk (t 43) fun b53=>
Qa (bif b53 then (.bool true) else (t 52)) (
ZN C K (puts t [(53,(bif b53 then (.bool true) else (t 52))),(54,.bool true),(55,undef),(56,undef),(57,undef),(58,undef),(59,undef),(60,undef),(61,undef),(62,undef),(63,undef)]) g n) (
Qd (t 1) fun l55 o55=>
kLd g l55 (o55+0) fun v56=>
C Jr [v56,.int .u8 67] g n fun v57 g7 n57=>
Qa v57 (
Qd (t 1) fun l59 o59=>
kLd g7 l59 (o59+3) fun v60=>
C QT [v60] g7 n57 fun v61 g8 n61=>
kUn .not v61 fun v62=>
ZN C K (puts t [(53,(bif b53 then (.bool true) else (t 52))),(54,.bool false),(55,(ptr l55 (o55+0))),(56,v56),(57,v57),(58,.bool true),(59,(ptr l59 (o59+3))),(60,v60),(61,v61),(62,v62),(63,v62)]) g8 n61) (
ZN C K (puts t [(53,(bif b53 then (.bool true) else (t 52))),(54,.bool false),(55,(ptr l55 (o55+0))),(56,v56),(57,v57),(58,.bool false),(59,undef),(60,undef),(61,undef),(62,undef),(63,.bool false)]) g7 n57))
def QO (C:CT) (K:Cont) (t:Env) (g:G) (n:Nat):Prop:=
Zbk (t 32) fun b42=>
Qa (bif b42 then (.bool true) else (t 41)) (
JN C K (puts t [(42,(bif b42 then (.bool true) else (t 41))),(43,.bool true),(44,undef),(45,undef),(46,undef),(47,undef),(48,undef),(49,undef),(50,undef),(51,undef),(52,undef)]) g n) (
Qd (t 1) fun l44 o44=>
kLd g l44 (o44+0) fun v45=>
C Jr [v45,.int .u8 66] g n fun v46 g9 n46=>
kUn .not v46 fun v47=>
Qa v47 (
Qd (t 1) fun l49 o49=>
kLd g9 l49 (o49+2) fun v50=>
Jb .int .neq v50 (.int .i64 0) fun v51=>
JN C K (puts t [(42,(bif b42 then (.bool true) else (t 41))),(43,.bool false),(44,(ptr l44 (o44+0))),(45,v45),(46,v46),(47,v47),(48,.bool true),(49,(ptr l49 (o49+2))),(50,v50),(51,v51),(52,v51)]) g9 n46) (
JN C K (puts t [(42,(bif b42 then (.bool true) else (t 41))),(43,.bool false),(44,(ptr l44 (o44+0))),(45,v45),(46,v46),(47,v47),(48,.bool false),(49,undef),(50,undef),(51,undef),(52,.bool false)]) g9 n46))
def XO (C:CT) (K:Cont) (t:Env) (g:G) (n:Nat):Prop:=
Zbk (t 21) fun b31=>
Qa (bif b31 then (.bool true) else (t 30)) (
QO C K (puts t [(31,(bif b31 then (.bool true) else (t 30))),(32,.bool true),(33,undef),(34,undef),(35,undef),(36,undef),(37,undef),(38,undef),(39,undef),(40,undef),(41,undef)]) g n) (
Qd (t 1) fun l33 o33=>
kLd g l33 (o33+0) fun v34=>
C Jr [v34,.int .u8 66] g n fun v35 g10 n35=>
Qa v35 (
Qd (t 1) fun l37 o37=>
kLd g10 l37 (o37+2) fun v38=>
C QT [v38] g10 n35 fun v39 g11 n39=>
kUn .not v39 fun v40=>
QO C K (puts t [(31,(bif b31 then (.bool true) else (t 30))),(32,.bool false),(33,(ptr l33 (o33+0))),(34,v34),(35,v35),(36,.bool true),(37,(ptr l37 (o37+2))),(38,v38),(39,v39),(40,v40),(41,v40)]) g11 n39) (
QO C K (puts t [(31,(bif b31 then (.bool true) else (t 30))),(32,.bool false),(33,(ptr l33 (o33+0))),(34,v34),(35,v35),(36,.bool false),(37,undef),(38,undef),(39,undef),(40,undef),(41,.bool false)]) g10 n35))
def X5 (C:CT) (K:Cont) (t:Env) (g:G) (n:Nat):Prop:=
Zbk (t 15) fun b20=>
Qa (bif b20 then (t 19) else (.bool false)) (
XO C K (puts t [(20,(bif b20 then (t 19) else (.bool false))),(21,.bool true),(22,undef),(23,undef),(24,undef),(25,undef),(26,undef),(27,undef),(28,undef),(29,undef),(30,undef)]) g n) (
Qd (t 1) fun l22 o22=>
kLd g l22 (o22+0) fun v23=>
C Jr [v23,.int .u8 65] g n fun v24 g12 n24=>
kUn .not v24 fun v25=>
Qa v25 (
Qd (t 1) fun l27 o27=>
kLd g12 l27 (o27+1) fun v28=>
Jb .int .neq v28 (.int .i64 0) fun v29=>
XO C K (puts t [(20,(bif b20 then (t 19) else (.bool false))),(21,.bool false),(22,(ptr l22 (o22+0))),(23,v23),(24,v24),(25,v25),(26,.bool true),(27,(ptr l27 (o27+1))),(28,v28),(29,v29),(30,v29)]) g12 n24) (
XO C K (puts t [(20,(bif b20 then (t 19) else (.bool false))),(21,.bool false),(22,(ptr l22 (o22+0))),(23,v23),(24,v24),(25,v25),(26,.bool false),(27,undef),(28,undef),(29,undef),(30,.bool false)]) g12 n24))
def XaM (C:CT) (a0:Value) (g:G) (n:Nat) (K:Cont):Prop:=
Zm a0 fun c1=>
Qp c1 .exact g n fun l1 g1 n1=>
kLd g1 l1 (0+0) fun v5=>
Jb .int .lss v5 (.int .i64 0) fun v6=>
Qa v6 (
Jc K (.bool false) g1 n1) (
kLd g1 l1 (0+0) fun v9=>
Jb .int .gtr v9 (.int .i64 22) fun v10=>
Qa v10 (
Jc K (.bool false) g1 n1) (
kLd g1 l1 (0+0) fun v13=>
C Jr [v13,.int .u8 65] g1 n1 fun v14 g2 n14=>
Qa v14 (
kLd g2 l1 (0+1) fun v17=>
C QT [v17] g2 n14 fun v18 g3 n18=>
kUn .not v18 fun v19=>
X5 C K (puts (Xi [a0]) [(1,ptr l1 0),(2,.bool false),(4,(ptr l1 (0+0))),(5,v5),(6,v6),(7,.bool false),(8,(ptr l1 (0+0))),(9,v9),(10,v10),(11,v10),(12,(ptr l1 (0+0))),(13,v13),(14,v14),(15,.bool true),(16,(ptr l1 (0+1))),(17,v17),(18,v18),(19,v19)]) g3 n18) (
X5 C K (puts (Xi [a0]) [(1,ptr l1 0),(2,.bool false),(4,(ptr l1 (0+0))),(5,v5),(6,v6),(7,.bool false),(8,(ptr l1 (0+0))),(9,v9),(10,v10),(11,v10),(12,(ptr l1 (0+0))),(13,v13),(14,v14),(15,.bool false),(16,undef),(17,undef),(18,undef),(19,undef)]) g2 n14)))
theorem QaW (C:CT) (a0:Value) (g:G) (n:Nat) (K:Cont):XaM C a0 g n K=Zf Tryz.prog C Q5 [a0] g n K:=by kernel_rfl
def QcP (C:CT) (a0 a1:Value) (g:G) (n:Nat) (K:Cont):Prop:=
Qg a0 fun v5=>
Qd v5 fun l6 o6=>
C QaD [(ptr l6 (o6+0))] g n fun v7 g1 n7=>
kUn .not v7 fun v8=>
Qa v8 (
C Zcf [a0,a1] g1 n7 fun v11 g2 n11=>
Jc K (.tuple #[]) g2 n11) (
Jc K (.tuple #[]) g1 n7)
theorem Zdb (C:CT) (a0 a1:Value) (g:G) (n:Nat) (K:Cont):QcP C a0 a1 g n K=Zf Tryz.prog C Za3 [a0,a1] g n K:=by kernel_rfl
def QbP (C:CT) (a0:Value) (g:G) (n:Nat) (K:Cont):Prop:=
Qd a0 fun l4 o4=>
kLd g l4 o4 fun v4=>
Qg v4 fun v5=>
Qd v5 fun l6 o6=>
kLd g l6 (o6+3) fun v7=>
C Xbw [v7] g n fun v8 g1 n8=>
Zc v8 0 fun v9=>
Zc v8 1 fun v10=>
Qp [.int .i64 0,.int .i64 0,.int .i64 0,.int .i64 0,.int .i64 0] .exact g1 n8 fun l1 g2 n1=>
Zm v9 fun cg3=>
cg3.length=5∧Js g2 l1 0 cg3 fun g3=>
Qd a0 fun l11 o11=>
kLd g3 l11 o11 fun v11=>
Qd a0 fun l12 o12=>
kLd g3 l12 o12 fun v12=>
Qn g3 l1 0 5 fun c13=>
Jb .int .eql v10 (.int .i64 0) fun v15=>
Qg v11 fun v16=>
Qd v16 fun l17 o17=>
Zm (.agg c13.toArray) fun cg4=>
cg4.length=5∧Js g3 l17 (o17+4) cg4 fun g4=>
(Qd a0 fun l _=>g4 l=g3 l)∧Qg v12 fun v18=>
Qd v18 fun l19 o19=>
kSt g4 l19 (o19+9) v15 fun g5=>
Jc K (.tuple #[]) g5 n1
theorem Jcu (C:CT) (a0:Value) (g:G) (n:Nat) (K:Cont):QbP C a0 g n K=Zf Tryz.prog C QaJ [a0] g n K:=by kernel_rfl
def Xdy (C:CT) (a0:Value) (g:G) (n:Nat) (K:Cont):Prop:=
Qp [.int .i64 0,.int .i64 0,.int .i64 0,.int .i64 0,.int .i64 0] .exact g n fun l2 g1 n2=>
ZO .u8 a0 fun v6=>
ZO .i64 v6 fun v7=>
Jb .int .shr a0 (.int .u64 8) fun v9=>
Jb .int .and v9 (.int .u64 15) fun v10=>
ZO .i64 v10 fun v11=>
Jb .int .shr a0 (.int .u64 12) fun v13=>
Jb .int .and v13 (.int .u64 15) fun v14=>
ZO .i64 v14 fun v15=>
Jb .int .shr a0 (.int .u64 16) fun v17=>
Jb .int .and v17 (.int .u64 15) fun v18=>
ZO .i64 v18 fun v19=>
ZO .i64 a0 fun v21=>
Jb .int .shr v21 (.int .u64 32) fun v22=>
Qe [.int .i64 0,.int .i64 0,.int .i64 0,.int .i64 0,.int .i64 0] [(0,none,v7),(1,none,v11),(2,none,v15),(3,none,v19),(4,none,v22)] fun c23=>
Qp [.int .i64 0,.int .i64 0,.int .i64 0,.int .i64 0,.int .i64 0] .exact g1 n2 fun l4 g2 n4=>
Zm (.agg c23.toArray) fun cg3=>
cg3.length=5∧Js g2 l4 0 cg3 fun g3=>
ZO .u32 a0 fun v25=>
Jb .int .shr v25 (.int .u64 20) fun v26=>
Jb .int .neq v26 (.int .u32 0) fun v27=>
Qa v27 (
Qe [.int .i64 0,.int .i64 0,.int .i64 0,.int .i64 0,.int .i64 0] [] fun c33=>
Zm (.agg c33.toArray) fun cg4=>
cg4.length=5∧Js g3 l2 0 cg4 fun g4=>
Qn g4 l2 0 5 fun r0=>
Jc K (.tuple #[.agg r0.toArray,.int .i64 11]) g4 n4) (
Qn g3 l4 0 5 fun c29=>
C Zbq [.agg c29.toArray] g3 n4 fun v30 g5 n30=>
kUn .not v30 fun v31=>
Qa v31 (
Qe [.int .i64 0,.int .i64 0,.int .i64 0,.int .i64 0,.int .i64 0] [] fun c33=>
Zm (.agg c33.toArray) fun cg6=>
cg6.length=5∧Js g5 l2 0 cg6 fun g6=>
Qn g6 l2 0 5 fun r0=>
Jc K (.tuple #[.agg r0.toArray,.int .i64 11]) g6 n30) (
Qn g5 l4 0 5 fun c34=>
Zm (.agg c34.toArray) fun cg7=>
cg7.length=5∧Js g5 l2 0 cg7 fun g7=>
Qn g7 l2 0 5 fun r0=>
Jc K (.tuple #[.agg r0.toArray,.int .i64 0]) g7 n30))
theorem JdL (C:CT) (a0:Value) (g:G) (n:Nat) (K:Cont):Xdy C a0 g n K=Zf Tryz.prog C Xbw [a0] g n K:=by kernel_rfl
def Qbf (C:CT) (a0:Value) (g:G) (n:Nat) (K:Cont):Prop:=
Qg a0 fun v3=>
Qd v3 fun l4 o4=>
kLd g l4 (o4+0) fun v5=>
Qg v5 fun v6=>
Qd v6 fun l7 o7=>
kLd g l7 (o7+9) fun v8=>
Jb .int .add v8 (.int .i64 1) fun v9=>
Qg v5 fun v10=>
Qd v10 fun l11 o11=>
kSt g l11 (o11+9) v9 fun g1=>
Jc K (.tuple #[]) g1 n
theorem Qbi (C:CT) (a0:Value) (g:G) (n:Nat) (K:Cont):Qbf C a0 g n K=Zf Tryz.prog C Jq [a0] g n K:=by kernel_rfl
def Xao (C:CT) (K:Cont) (t:Env) (g:G) (n:Nat):Prop:=
C Jk [t 0,t 5,t 2,t 3,t 6] g n fun v54 g4 n54=>
Qg (t 0) fun v56=>
Qd v56 fun l57 o57=>
kLd g4 l57 (o57+0) fun v58=>
Qg (t 0) fun v60=>
Qd v60 fun l61 o61=>
kLd g4 l61 (o61+2+1) fun v63=>
Qg v58 fun v65=>
Qd v65 fun l66 o66=>
Zj (ptr l66 (o66+1)) v63 8 1 fun v67=>
Qd v67 fun lg5 og5=>
kSt g4 lg5 og5 (t 6) fun g5=>
C Jq [t 0] g5 n54 fun v69 g6 n69=>
Jc K (.tuple #[]) g6 n69
def Zb8 (C:CT) (a0:Value) (g:G) (n:Nat) (K:Cont):Prop:=
C Xal [a0] g n fun v9 g1 n9=>
Zc v9 0 fun v10=>
Zc v9 1 fun v11=>
Zc v9 2 fun v12=>
kUn .not v12 fun v14=>
Qa v14 (
Jc K (.tuple #[]) g1 n9) (
Qg a0 fun v17=>
Qd v17 fun l18 o18=>
kLd g1 l18 (o18+0) fun v19=>
Qg v19 fun v20=>
Qd v20 fun l21 o21=>
kLd g1 l21 (o21+11) fun v22=>
C ZaB [v22,v10,v11] g1 n9 fun v25 g2 n25=>
Zc v25 0 fun v26=>
Zc v25 1 fun v27=>
kUn .not v27 fun v29=>
Qa v29 (
Qg a0 fun v32=>
Qd v32 fun l33 o33=>
kLd g2 l33 (o33+1) fun v34=>
Qg a0 fun v36=>
Qd v36 fun l37 o37=>
kLd g2 l37 (o37+0) fun v38=>
Qg v38 fun v39=>
Qd v39 fun l40 o40=>
kLd g2 l40 (o40+0) fun v41=>
C Zad [v34,v41,v10,v11] g2 n25 fun v44 g3 n44=>
Zc v44 0 fun v45=>
Zc v44 1 fun v46=>
kUn .not v46 fun v48=>
Qa v48 (
Jc K (.tuple #[]) g3 n44) (
Xao C K (puts (Xi [a0]) [(8,a0),(9,v9),(7,v9),(10,v10),(11,v11),(12,v12),(2,v10),(3,v11),(4,v12),(13,v12),(14,v14),(5,.int .i64 2),(16,a0),(17,v17),(18,(ptr l18 (o18+0))),(19,v19),(20,v20),(21,(ptr l21 (o21+11))),(22,v22),(23,v10),(24,v11),(25,v25),(15,v25),(26,v26),(27,v27),(6,v26),(4,v27),(28,v27),(29,v29),(5,.int .i64 1),(31,a0),(32,v32),(33,(ptr l33 (o33+1))),(34,v34),(35,a0),(36,v36),(37,(ptr l37 (o37+0))),(38,v38),(39,v39),(40,(ptr l40 (o40+0))),(41,v41),(42,v10),(43,v11),(44,v44),(30,v44),(45,v45),(46,v46),(6,v45),(4,v46),(47,v46),(48,v48)]) g3 n44)) (
Xao C K (puts (Xi [a0]) [(8,a0),(9,v9),(7,v9),(10,v10),(11,v11),(12,v12),(2,v10),(3,v11),(4,v12),(13,v12),(14,v14),(5,.int .i64 2),(16,a0),(17,v17),(18,(ptr l18 (o18+0))),(19,v19),(20,v20),(21,(ptr l21 (o21+11))),(22,v22),(23,v10),(24,v11),(25,v25),(15,v25),(26,v26),(27,v27),(6,v26),(4,v27),(28,v27),(29,v29)]) g2 n25))
theorem XcH (C:CT) (a0:Value) (g:G) (n:Nat) (K:Cont):Zb8 C a0 g n K=Zf Tryz.prog C XaL [a0] g n K:=by kernel_rfl
def Zav (C:CT) (K:Cont) (J:Qm) (t:Env) (g:G) (n:Nat):Prop:=
J t g n
def JD (C:CT) (K:Cont) (t:Env) (g:G) (n:Nat):Prop:=
Qg (t 0) fun v54=>
Qd v54 fun l55 o55=>
kLd g l55 (o55+2+0) fun v57=>
Jb .int .eql v57 (.int .i64 9) fun v58=>
Qa v58 (
Qd (t 5) fun l62 o62=>
kLd g l62 (o62+3) fun v63=>
C Jk [t 0,.int .i64 12,t 2,t 3,v63] g n fun v64 g7 n64=>
C Jq [t 0] g7 n64 fun v69 g8 n69=>
Jc K (.tuple #[]) g8 n69) (
C Jk [t 0,.int .i64 14,t 2,.int .i64 0,.int .u64 0] g n fun v67 g9 n67=>
C Jq [t 0] g9 n67 fun v69 g10 n69=>
Jc K (.tuple #[]) g10 n69)
def ZY (C:CT) (K:Cont) (J:Qm) (t:Env) (g:G) (n:Nat):Prop:=
Qg (t 0) fun v44=>
Qd v44 fun l45 o45=>
kLd g l45 (o45+0) fun v46=>
Qg v46 fun v47=>
Qd v47 fun l48 o48=>
kLd g l48 (o48+11) fun v49=>
Qd (t 5) fun l50 o50=>
Qn g l50 o50 5 fun c50=>
C Zaz [v49,.agg c50.toArray] g n fun v51 g6 n51=>
Jb .int .neq v51 (.int .i64 0) fun v52=>
Qa v52 (
Jc K (.tuple #[]) g6 n51) (
J (puts t [(43,t 0),(44,v44),(45,(ptr l45 (o45+0))),(46,v46),(47,v47),(48,(ptr l48 (o48+11))),(49,v49),(50,.agg c50.toArray),(51,v51),(52,v52)]) g6 n51)
def Xa3 (C:CT) (a0:Value) (J:Qm) (g:G) (n:Nat) (K:Cont):Prop:=
C Xal [a0] g n fun v8 g1 n8=>
Zc v8 0 fun v9=>
Zc v8 1 fun v10=>
Zc v8 2 fun v11=>
kUn .not v11 fun v13=>
Qa v13 (
Jc K (.tuple #[]) g1 n8) (
Qg a0 fun v15=>
Qd v15 fun l16 o16=>
kLd g1 l16 (o16+2+0) fun v18=>
Qe [.int .i64 0,.int .i64 0,.int .i64 0,.int .u64 0,.bool false] [(0,none,v18),(1,none,v9)] fun c20=>
Qp [.int .i64 0,.int .i64 0,.int .i64 0,.int .u64 0,.bool false] .exact g1 n8 fun l5 g2 n5=>
Zm (.agg c20.toArray) fun cg3=>
cg3.length=5∧Js g2 l5 0 cg3 fun g3=>
Qg a0 fun v22=>
Qd v22 fun l23 o23=>
kLd g3 l23 (o23+2+0) fun v25=>
Jb .int .eql v25 (.int .i64 9) fun v26=>
Qa v26 (
Qg a0 fun v29=>
Qd v29 fun l30 o30=>
kLd g3 l30 (o30+0) fun v31=>
Qg a0 fun v33=>
Qd v33 fun l34 o34=>
kLd g3 l34 (o34+2+1) fun v36=>
Qg v31 fun v37=>
Qd v37 fun l38 o38=>
Zj (ptr l38 (o38+1)) v36 8 1 fun v39=>
Qd v39 fun l40 o40=>
kLd g3 l40 o40 fun v40=>
kSt g3 l5 (0+2) v10 fun g4=>
(Qd (ptr l30 (o30+0)) fun l _=>g4 l=g3 l)∧(Qd (ptr l34 (o34+2+1)) fun l _=>g4 l=g3 l)∧(Qd v39 fun l _=>g4 l=g3 l)∧kSt g4 l5 (0+3) v40 fun g5=>
Zav C K J (puts (Xi [a0]) [(7,a0),(8,v8),(6,v8),(9,v9),(10,v10),(11,v11),(2,v9),(3,v10),(4,v11),(12,v11),(13,v13),(14,a0),(15,v15),(16,(ptr l16 (o16+2))),(17,(ptr l16 (o16+2+0))),(18,v18),(19,v9),(20,.agg c20.toArray),(5,ptr l5 0),(21,a0),(22,v22),(23,(ptr l23 (o23+2))),(24,(ptr l23 (o23+2+0))),(25,v25),(26,v26),(27,v10),(28,a0),(29,v29),(30,(ptr l30 (o30+0))),(31,v31),(32,a0),(33,v33),(34,(ptr l34 (o34+2))),(35,(ptr l34 (o34+2+1))),(36,v36),(37,v37),(38,(ptr l38 (o38+1))),(39,v39),(40,v40),(41,(ptr l5 (0+2))),(42,(ptr l5 (0+3)))]) g5 n5) (
Zav C K J (puts (Xi [a0]) [(7,a0),(8,v8),(6,v8),(9,v9),(10,v10),(11,v11),(2,v9),(3,v10),(4,v11),(12,v11),(13,v13),(14,a0),(15,v15),(16,(ptr l16 (o16+2))),(17,(ptr l16 (o16+2+0))),(18,v18),(19,v9),(20,.agg c20.toArray),(5,ptr l5 0),(21,a0),(22,v22),(23,(ptr l23 (o23+2))),(24,(ptr l23 (o23+2+0))),(25,v25),(26,v26)]) g3 n5))
def Qbt (C:CT) (a0:Value) (g:G) (n:Nat) (K:Cont):Prop:=Xa3 C a0 (ZY C K (JD C K)) g n K
theorem JbF (C:CT) (t:Env) (g:G) (n:Nat) (K:Cont):JD C K t g n=Jaj Tryz.prog C [1,1,1,1,1] Jv K t g n:=by kernel_rfl
theorem ZbT (C:CT) (K:Cont):JD C K=Jaj Tryz.prog C [1,1,1,1,1] Jv K:=funext fun t=>funext fun g=>funext fun n=>JbF C t g n K
theorem JbH (C:CT) (J:Qm) (t:Env) (g:G) (n:Nat) (K:Cont):ZY C K J t g n=JaZ Tryz.prog C [1,1,1,1] [1] J Jv K t g n:=by kernel_rfl
theorem QbJ (C:CT) (K:Cont):ZY C K (JD C K)=Jaj Tryz.prog C [1,1,1,1] Jv K:=by
 rw [ZbT]
 exact (funext fun t=>funext fun g=>funext fun n=>JbH C _ t g n K).trans (JaX Tryz.prog C [1,1,1,1] [1] Jv K)
theorem XbJ (C:CT) (a0:Value) (J:Qm) (g:G) (n:Nat) (K:Cont):Xa3 C a0 J g n K=XbW Tryz.prog C [1,1,1,1] J Jv [a0] g n K:=by kernel_rfl
theorem JcS (C:CT) (a0:Value) (g:G) (n:Nat) (K:Cont):Qbt C a0 g n K=Zf Tryz.prog C Jv [a0] g n K:=by
 unfold Qbt
 rw [XbJ,QbJ]
 exact Jbv Tryz.prog C [1,1,1,1] Jv [a0] g n K
def ZbL (C:CT) (a0:Value) (g:G) (n:Nat) (K:Cont):Prop:=
C Zai [a0] g n fun v3 g1 n3=>
Qa v3 (
C Jk [a0,.int .i64 7,.int .i64 0,.int .i64 0,.int .u64 0] g1 n3 fun v5 g2 n5=>
C Jq [a0] g2 n5 fun v7 g3 n7=>
Jc K (.tuple #[]) g3 n7) (
Jc K (.tuple #[]) g1 n3)
theorem Qcy (C:CT) (a0:Value) (g:G) (n:Nat) (K:Cont):ZbL C a0 g n K=Zf Tryz.prog C XaE [a0] g n K:=by kernel_rfl
def Zac (C:CT) (K:Cont) (J:Qm) (t:Env) (g:G) (n:Nat):Prop:=
J t g n
def Xac (C:CT) (K:Cont) (t:Env) (g:G) (n:Nat):Prop:=
Qg (t 0) fun v119=>
Qd v119 fun l120 o120=>
kLd g l120 (o120+0) fun v121=>
Qg (t 0) fun v123=>
Qd v123 fun l124 o124=>
kLd g l124 (o124+2+1) fun v126=>
Qg v121 fun v128=>
Qd v128 fun l129 o129=>
Zj (ptr l129 (o129+1)) v126 8 1 fun v130=>
Qd v130 fun lg8 og8=>
kSt g lg8 og8 (t 5) fun g8=>
C Jq [t 0] g8 n fun v132 g9 n132=>
Jc K (.tuple #[]) g9 n132
def Qv (C:CT) (K:Cont) (t:Env) (g:G) (n:Nat):Prop:=
Qa (t 8) (
Qg (t 0) fun v99=>
Qd v99 fun l100 o100=>
kLd g l100 (o100+1) fun v101=>
Qg (t 0) fun v103=>
Qd v103 fun l104 o104=>
kLd g l104 (o104+0) fun v105=>
Qg v105 fun v106=>
Qd v106 fun l107 o107=>
kLd g l107 (o107+0) fun v108=>
C Z6 [v101,v108,t 2,t 3,t 7] g n fun v112 g6 n112=>
C Jk [t 0,.int .i64 3,t 2,t 3,t 7] g6 n112 fun v117 g7 n117=>
Xac C K (puts t [(97,t 8),(98,t 0),(99,v99),(100,(ptr l100 (o100+1))),(101,v101),(102,t 0),(103,v103),(104,(ptr l104 (o104+0))),(105,v105),(106,v106),(107,(ptr l107 (o107+0))),(108,v108),(109,t 2),(110,t 3),(111,t 7),(112,v112),(113,t 0),(114,t 2),(115,t 3),(116,t 7),(117,v117)]) g7 n117) (
Xac C K (puts t [(97,t 8)]) g n)
def ZK (C:CT) (K:Cont) (J:Qm) (t:Env) (g:G) (n:Nat):Prop:=
Qg (t 0) fun v61=>
Qd v61 fun l62 o62=>
kLd g l62 (o62+0) fun v63=>
Qg (t 0) fun v65=>
Qd v65 fun l66 o66=>
kLd g l66 (o66+2+3) fun v68=>
Qg v63 fun v69=>
Qd v69 fun l70 o70=>
Zj (ptr l70 (o70+1)) v68 8 1 fun v71=>
Qd v71 fun l72 o72=>
kLd g l72 o72 fun v72=>
Qg (t 0) fun v75=>
Qd v75 fun l76 o76=>
kLd g l76 (o76+0) fun v77=>
Qg (t 0) fun v79=>
Qd v79 fun l80 o80=>
kLd g l80 (o80+2+1) fun v82=>
Qg v77 fun v83=>
Qd v83 fun l84 o84=>
Zj (ptr l84 (o84+1)) v82 8 1 fun v85=>
Qd v85 fun l86 o86=>
kLd g l86 o86 fun v86=>
Jb .int .eql (t 5) v86 fun v87=>
Qg (t 0) fun v89=>
Qd v89 fun l90 o90=>
kLd g l90 (o90+2+0) fun v92=>
Jb .int .eql v92 (.int .i64 11) fun v93=>
Qa v93 (
Jb .int .add (t 5) v72 fun v96=>
Zac C K J (puts t [(60,t 0),(61,v61),(62,(ptr l62 (o62+0))),(63,v63),(64,t 0),(65,v65),(66,(ptr l66 (o66+2))),(67,(ptr l66 (o66+2+3))),(68,v68),(69,v69),(70,(ptr l70 (o70+1))),(71,v71),(72,v72),(73,t 5),(74,t 0),(75,v75),(76,(ptr l76 (o76+0))),(77,v77),(78,t 0),(79,v79),(80,(ptr l80 (o80+2))),(81,(ptr l80 (o80+2+1))),(82,v82),(83,v83),(84,(ptr l84 (o84+1))),(85,v85),(86,v86),(87,v87),(7,v72),(8,v87),(88,t 0),(89,v89),(90,(ptr l90 (o90+2))),(91,(ptr l90 (o90+2+0))),(92,v92),(93,v93),(94,t 5),(95,v72),(96,v96),(7,v96),(8,.bool true)]) g n) (
Zac C K J (puts t [(60,t 0),(61,v61),(62,(ptr l62 (o62+0))),(63,v63),(64,t 0),(65,v65),(66,(ptr l66 (o66+2))),(67,(ptr l66 (o66+2+3))),(68,v68),(69,v69),(70,(ptr l70 (o70+1))),(71,v71),(72,v72),(73,t 5),(74,t 0),(75,v75),(76,(ptr l76 (o76+0))),(77,v77),(78,t 0),(79,v79),(80,(ptr l80 (o80+2))),(81,(ptr l80 (o80+2+1))),(82,v82),(83,v83),(84,(ptr l84 (o84+1))),(85,v85),(86,v86),(87,v87),(7,v72),(8,v87),(88,t 0),(89,v89),(90,(ptr l90 (o90+2))),(91,(ptr l90 (o90+2+0))),(92,v92),(93,v93)]) g n)
def XaJ (C:CT) (a0:Value) (J:Qm) (g:G) (n:Nat) (K:Cont):Prop:=
C Xal [a0] g n fun v11 g1 n11=>
Zc v11 0 fun v12=>
Zc v11 1 fun v13=>
Zc v11 2 fun v14=>
kUn .not v14 fun v16=>
Qa v16 (
Jc K (.tuple #[]) g1 n11) (
C Zai [a0] g1 n11 fun v19 g2 n19=>
kUn .not v19 fun v20=>
Qa v20 (
Jc K (.tuple #[]) g2 n19) (
Qg a0 fun v24=>
Qd v24 fun l25 o25=>
kLd g2 l25 (o25+1) fun v26=>
Qg a0 fun v28=>
Qd v28 fun l29 o29=>
kLd g2 l29 (o29+0) fun v30=>
Qg v30 fun v31=>
Qd v31 fun l32 o32=>
kLd g2 l32 (o32+0) fun v33=>
C Qas [v26,v33,v12] g2 n19 fun v35 g3 n35=>
kUn .not v35 fun v36=>
Qa v36 (
Jc K (.tuple #[]) g3 n35) (
Qg a0 fun v40=>
Qd v40 fun l41 o41=>
kLd g3 l41 (o41+1) fun v42=>
Qg a0 fun v44=>
Qd v44 fun l45 o45=>
kLd g3 l45 (o45+0) fun v46=>
Qg v46 fun v47=>
Qd v47 fun l48 o48=>
kLd g3 l48 (o48+0) fun v49=>
C Zad [v42,v49,v12,v13] g3 n35 fun v52 g4 n52=>
Zc v52 0 fun v53=>
Zc v52 1 fun v54=>
C Jk [a0,.int .i64 4,v12,v13,v53] g4 n52 fun v59 g5 n59=>
J (puts (Xi [a0]) [(10,a0),(11,v11),(9,v11),(12,v12),(13,v13),(14,v14),(2,v12),(3,v13),(4,v14),(15,v14),(16,v16),(17,.bool false),(18,a0),(19,v19),(20,v20),(21,v20),(22,.bool false),(23,a0),(24,v24),(25,(ptr l25 (o25+1))),(26,v26),(27,a0),(28,v28),(29,(ptr l29 (o29+0))),(30,v30),(31,v31),(32,(ptr l32 (o32+0))),(33,v33),(34,v12),(35,v35),(36,v36),(37,v36),(39,a0),(40,v40),(41,(ptr l41 (o41+1))),(42,v42),(43,a0),(44,v44),(45,(ptr l45 (o45+0))),(46,v46),(47,v47),(48,(ptr l48 (o48+0))),(49,v49),(50,v12),(51,v13),(52,v52),(38,v52),(53,v53),(54,v54),(5,v53),(6,v54),(55,a0),(56,v12),(57,v13),(58,v53),(59,v59)]) g5 n59)))
def JaU (C:CT) (a0:Value) (g:G) (n:Nat) (K:Cont):Prop:=XaJ C a0 (ZK C K (Qv C K)) g n K
theorem Qbg (C:CT) (t:Env) (g:G) (n:Nat) (K:Cont):Qv C K t g n=Jaj Tryz.prog C [1,1,1,1,1,1] Zq K t g n:=by kernel_rfl
theorem Jbm (C:CT) (K:Cont):Qv C K=Jaj Tryz.prog C [1,1,1,1,1,1] Zq K:=funext fun t=>funext fun g=>funext fun n=>Qbg C t g n K
theorem Jbe (C:CT) (J:Qm) (t:Env) (g:G) (n:Nat) (K:Cont):ZK C K J t g n=JaZ Tryz.prog C [1,1,1,1] [1,1] J Zq K t g n:=by kernel_rfl
theorem Xbm (C:CT) (K:Cont):ZK C K (Qv C K)=Jaj Tryz.prog C [1,1,1,1] Zq K:=by
 rw [Jbm]
 exact (funext fun t=>funext fun g=>funext fun n=>Jbe C _ t g n K).trans (JaX Tryz.prog C [1,1,1,1] [1,1] Zq K)
theorem Jbh (C:CT) (a0:Value) (J:Qm) (g:G) (n:Nat) (K:Cont):XaJ C a0 J g n K=XbW Tryz.prog C [1,1,1,1] J Zq [a0] g n K:=by kernel_rfl
theorem Qce (C:CT) (a0:Value) (g:G) (n:Nat) (K:Cont):JaU C a0 g n K=Zf Tryz.prog C Zq [a0] g n K:=by
 unfold JaU
 rw [Jbh,Xbm]
 exact Jbv Tryz.prog C [1,1,1,1] Zq [a0] g n K
def XbE (C:CT) (a0:Value) (g:G) (n:Nat) (K:Cont):Prop:=
Qg a0 fun v9=>
Qd v9 fun l10 o10=>
kLd g l10 (o10+0) fun v11=>
Qg v11 fun v12=>
Qd v12 fun l13 o13=>
Qg a0 fun v15=>
Qd v15 fun l16 o16=>
Qn g l16 (o16+2) 5 fun c17=>
Qp [.int .i64 0,.int .i64 0,.int .i64 0,.int .i64 0,.int .i64 0] .exact g n fun l3 g1 n3=>
(Qd (ptr l10 (o10+0)) fun l _=>g1 l=g l)∧(Qd (ptr l16 (o16+2)) fun l _=>g1 l=g l)∧Zm (.agg c17.toArray) fun cg2=>
cg2.length=5∧Js g1 l3 0 cg2 fun g2=>
C Jq [a0] g2 n3 fun v19 g3 n19=>
kLd g3 l3 (0+0) fun v22=>
kLd g3 l3 (0+2) fun v25=>
Zj (ptr l13 (o13+1)) v25 8 1 fun v27=>
Qd v27 fun l28 o28=>
kLd g3 l28 o28 fun v28=>
kLd g3 l3 (0+3) fun v31=>
Zj (ptr l13 (o13+1)) v31 8 1 fun v33=>
Qd v33 fun l34 o34=>
kLd g3 l34 o34 fun v34=>
C Xdf [v22,v28,v34] g3 n19 fun v35 g4 n35=>
Zc v35 0 fun v36=>
Zc v35 1 fun v37=>
Qa v37 (
kLd g4 l3 (0+1) fun v41=>
Zj (ptr l13 (o13+1)) v41 8 1 fun v44=>
Qd v44 fun lg5 og5=>
kSt g4 lg5 og5 v36 fun g5=>
Jc K (.tuple #[]) g5 n35) (
kLd g4 l3 (0+0) fun v47=>
kLd g4 l3 (0+1) fun v50=>
Zj (ptr l13 (o13+1)) v50 8 1 fun v52=>
Qd v52 fun l53 o53=>
kLd g4 l53 o53 fun v53=>
kLd g4 l3 (0+2) fun v56=>
Zj (ptr l13 (o13+1)) v56 8 1 fun v58=>
Qd v58 fun l59 o59=>
kLd g4 l59 o59 fun v59=>
C Jca [v47,v53,v59] g4 n35 fun v60 g6 n60=>
Zc v60 0 fun v61=>
Zc v60 1 fun v62=>
Qa v61 (
Qg a0 fun v65=>
Qd v65 fun l66 o66=>
kLd g6 l66 (o66+0) fun v67=>
kLd g6 l3 (0+4) fun v69=>
Qg v67 fun v70=>
Qd v70 fun l71 o71=>
kSt g6 l71 (o71+9) v69 fun g7=>
Jc K (.tuple #[]) g7 n60) (
Jc K (.tuple #[]) g6 n60))
theorem Jcc (C:CT) (a0:Value) (g:G) (n:Nat) (K:Cont):XbE C a0 g n K=Zf Tryz.prog C Zay [a0] g n K:=by kernel_rfl
def QbV (C:CT) (a0:Value) (g:G) (n:Nat) (K:Cont):Prop:=
Jb .ptr .eql a0 (.pointer none) fun v4=>
Qa v4 (
Jc K (.int .i64 0) g n) (
Qg a0 fun v6=>
Qd v6 fun l7 o7=>
kLd g l7 (o7+82) fun v8=>
Jc K v8 g n)
theorem Jct (C:CT) (a0:Value) (g:G) (n:Nat) (K:Cont):QbV C a0 g n K=Zf Tryz.prog C JC [a0] g n K:=by kernel_rfl
def Xb7 (C:CT) (a0 a1:Value) (g:G) (n:Nat) (K:Cont):Prop:=
Qg a0 fun v6=>
Qd v6 fun l7 o7=>
kLd g l7 (o7+81) fun v8=>
Jb .int .add v8 a1 fun v10=>
Jb .int .rem v10 (.int .i64 16) fun v11=>
Jc K v11 g n
theorem ZcL (C:CT) (a0 a1:Value) (g:G) (n:Nat) (K:Cont):Xb7 C a0 a1 g n K=Zf Tryz.prog C ZB [a0,a1] g n K:=by kernel_rfl
def Zbl (C:CT) (a0 a1 a2 a3:Value) (g:G) (n:Nat) (K:Cont):Prop:=
Jb .ptr .eql a0 (.pointer none) fun v12=>
Qa v12 (
Jc K (.tuple #[.bool false,.slice none 0 0]) g n) (
C Xa0 [a1,a2] g n fun v16 g1 n16=>
kUn .not v16 fun v17=>
Qa v17 (
Jc K (.tuple #[.bool false,.slice none 0 0]) g1 n16) (
C JS [a0,a1] g1 n16 fun v21 g2 n21=>
kUn .not v21 fun v22=>
Qa v22 (
C Z7 [a0,a1] g2 n21 fun v25 g3 n25=>
Jc K (.tuple #[.bool false,v25]) g3 n25) (
C Qs [a0,a1] g2 n21 fun v28 g4 n28=>
Qp [.int .i64 0,.int .i64 0,.int .u64 0,.int .u64 0,.int .u64 0,.int .u64 0,.int .u64 0,.int .u64 0,.int .u64 0,.int .u64 0,.int .i64 0] .exact g4 n28 fun l10 g5 n10=>
Zm v28 fun cg6=>
cg6.length=11∧Js g5 l10 0 cg6 fun g6=>
Zj (ptr l10 (0+2)) a2 8 1 fun v32=>
Qd v32 fun lg7 og7=>
kSt g6 lg7 og7 a3 fun g7=>
Qg a0 fun v34=>
Qd v34 fun l35 o35=>
kLd g7 l35 (o35+0) fun v36=>
Qn g7 l10 (0+2) 8 fun c39=>
C QL [v36,a1,.int .i64 3,.agg c39.toArray] g7 n10 fun v40 g8 n40=>
Jc K (.tuple #[.bool true,.slice none 0 0]) g8 n40)))
theorem Zb3 (C:CT) (a0 a1 a2 a3:Value) (g:G) (n:Nat) (K:Cont):Zbl C a0 a1 a2 a3 g n K=Zf Tryz.prog C Zar [a0,a1,a2,a3] g n K:=by kernel_rfl
def ZbC (C:CT) (K:Cont) (I_l1:Qm) (t:Env) (g:G) (n:Nat):Prop:=
Jb .int .lss (t 8) (t 7) fun v9=>
Qa v9 (
Jd (t 6) (t 8) 12 fun v10=>
Qd v10 fun l11 o11=>
Qn g l11 o11 12 fun c11=>
Qp [.int .i64 0,.int .i64 0,.bool false,.bool false,.int .u64 0,.int .u64 0,.int .u64 0,.int .u64 0,.int .u64 0,.int .u64 0,.int .u64 0,.int .u64 0] .exact g n fun l5 g1 n5=>
Zm (.agg c11.toArray) fun cg2=>
cg2.length=12∧Js g1 l5 0 cg2 fun g2=>
Qg (t 0) fun v13=>
Qd v13 fun l14 o14=>
Qn g2 l5 0 12 fun c15=>
C Xq [(ptr l14 (o14+1)),.agg c15.toArray] g2 n5 fun v16 g3 n16=>
Jb .int .add (t 8) (.int .i64 1) fun v17=>
I_l1 (puts t [(9,v9),(10,v10),(11,.agg c11.toArray),(5,ptr l5 0),(12,t 0),(13,v13),(14,(ptr l14 (o14+1))),(15,.agg c15.toArray),(16,v16),(17,v17),(8,v17)]) g3 n16) (
Jc K (.tuple #[]) g n)
def Qcx (C:CT) (a0 a1:Value) (g:G) (n:Nat) (K:Cont):Prop:=
Qan a1 fun v7=>
lfp (ZbC C K) (puts (Xi [a0,a1]) [(6,a1),(7,v7),(8,.int .i64 0)]) g n
theorem JcV (C:CT) (a0 a1:Value) (g:G) (n:Nat) (K:Cont):Qcx C a0 a1 g n K=Zf Tryz.prog C Jae [a0,a1] g n K:=by kernel_rfl
def Zbj (C:CT) (a0 a1 a2 a3:Value) (g:G) (n:Nat) (K:Cont):Prop:=
C Xt [a0,a1] g n fun v12 g1 n12=>
Jb .ptr .eql v12 (.pointer none) fun v14=>
Qa v14 (
Jc K (.int .i64 1) g1 n12) (
C Xu [a0,a2] g1 n12 fun v18 g2 n18=>
kUn .not v18 fun v19=>
Qa v19 (
Jc K (.int .i64 1) g2 n18) (
Jb .int .neq a3 (.int .i64 4) fun v23=>
Qa v23 (
Jb .int .neq a3 (.int .i64 5) fun v26=>
Qa v26 (
Jc K (.int .i64 1) g2 n18) (
Qg v12 fun v30=>
Qd v30 fun l31 o31=>
Qe [.int .i64 0,.int .i64 0,.bool false,.bool false,.int .u64 0,.int .u64 0,.int .u64 0,.int .u64 0,.int .u64 0,.int .u64 0,.int .u64 0,.int .u64 0] [(0,none,a3),(1,none,a2)] fun c34=>
C Xq [(ptr l31 (o31+1)),.agg c34.toArray] g2 n18 fun v35 g3 n35=>
Jc K v35 g3 n35)) (
Qg v12 fun v30=>
Qd v30 fun l31 o31=>
Qe [.int .i64 0,.int .i64 0,.bool false,.bool false,.int .u64 0,.int .u64 0,.int .u64 0,.int .u64 0,.int .u64 0,.int .u64 0,.int .u64 0,.int .u64 0] [(0,none,a3),(1,none,a2)] fun c34=>
C Xq [(ptr l31 (o31+1)),.agg c34.toArray] g2 n18 fun v35 g4 n35=>
Jc K v35 g4 n35)))
theorem Xb1 (C:CT) (a0 a1 a2 a3:Value) (g:G) (n:Nat) (K:Cont):Zbj C a0 a1 a2 a3 g n K=Zf Tryz.prog C Zas [a0,a1,a2,a3] g n K:=by kernel_rfl
def JaS (C:CT) (a0 a1:Value) (g:G) (n:Nat) (K:Cont):Prop:=
Qg a0 fun v6=>
Qd v6 fun l7 o7=>
C Jbu [(ptr l7 (o7+0)),a1] g n fun v9 g1 n9=>
Jc K v9 g1 n9
theorem Xbn (C:CT) (a0 a1:Value) (g:G) (n:Nat) (K:Cont):JaS C a0 a1 g n K=Zf Tryz.prog C ZC [a0,a1] g n K:=by kernel_rfl
def JcB (C:CT) (a0:Value) (g:G) (n:Nat) (K:Cont):Prop:=
Jb .ptr .eql a0 (.pointer none) fun v4=>
Qa v4 (
Jc K (.int .i64 0) g n) (
Qg a0 fun v6=>
Qd v6 fun l7 o7=>
kLd g l7 (o7+0) fun v8=>
Qan v8 fun v9=>
Jc K v9 g n)
theorem ZcU (C:CT) (a0:Value) (g:G) (n:Nat) (K:Cont):JcB C a0 g n K=Zf Tryz.prog C Qaw [a0] g n K:=by kernel_rfl
def Xc3 (C:CT) (K:Cont) (t:Env) (g:G) (n:Nat):Prop:=
Qa (t 87) (
Qd (t 1) fun l90 o90=>
kLd g l90 (o90+13) fun v91=>
C JaN [v91] g n fun v92 g4 n92=>
Jc K v92 g4 n92) (
Jc K (.bool false) g n)
def XM (C:CT) (K:Cont) (t:Env) (g:G) (n:Nat):Prop:=
Qa (t 76) (
Qd (t 1) fun l79 o79=>
kLd g l79 (o79+13) fun v80=>
C JaN [v80] g n fun v81 g3 n81=>
Qa v81 (
Qd (t 1) fun l83 o83=>
kLd g3 l83 (o83+14) fun v84=>
Jb .int .neq v84 (.int .u8 0) fun v85=>
Jc K v85 g3 n81) (
Jc K (.bool false) g3 n81)) (
Jb .int .eql (t 65) (.int .i64 4) fun v88=>
Qa v88 (
Xc3 C K (puts t [(88,v88),(87,v88)]) g n) (
Jb .int .eql (t 65) (.int .i64 5) fun v89=>
Xc3 C K (puts t [(88,v88),(87,v88),(89,v89),(87,v89)]) g n))
def JeW (C:CT) (a0:Value) (g:G) (n:Nat) (K:Cont):Prop:=
Zm a0 fun c1=>
Qp c1 .exact g n fun l1 g1 n1=>
kLd g1 l1 (0+10) fun v5=>
Jb .int .geq v5 (.int .i64 0) fun v6=>
Qa v6 (
kLd g1 l1 (0+10) fun v14=>
Jb .int .lss v14 (.int .i64 (-1)) fun v15=>
Qa v15 (
Jc K (.bool false) g1 n1) (
kLd g1 l1 (0+10) fun v18=>
Jb .int .geq v18 (.int .i64 8) fun v19=>
Qa v19 (
Jc K (.bool false) g1 n1) (
kLd g1 l1 (0+10) fun v23=>
Jb .int .geq v23 (.int .i64 0) fun v24=>
Qa v24 (
kLd g1 l1 (0+11) fun v27=>
Jb .int .neq v27 (.int .u8 0) fun v28=>
Qa v28 (
Jc K (.bool false) g1 n1) (
kLd g1 l1 (0+0) fun v33=>
kUn .not v33 fun v34=>
Qa v34 (
kLd g1 l1 (0+1) fun v37=>
Qa v37 (
Jc K (.bool false) g1 n1) (
Jc K (.bool false) g1 n1)) (
kLd g1 l1 (0+14) fun v55=>
kLd g1 l1 (0+11) fun v57=>
kLd g1 l1 (0+10) fun v59=>
C Jt [v59] g1 n1 fun v60 g2 n60=>
(Qd (ptr l1 (0+14)) fun l _=>g2 l=g1 l)∧(Qd (ptr l1 (0+11)) fun l _=>g2 l=g1 l)∧Jb .int .or v57 v60 fun v61=>
Jb .int .andNot v55 v61 fun v62=>
Jb .int .neq v62 (.int .u8 0) fun v63=>
Qa v63 (
Jc K (.bool false) g2 n60) (
kLd g2 l1 (0+12) fun v65=>
Jb .int .eql v65 (.int .i64 0) fun v67=>
Qa v67 (
kLd g2 l1 (0+13) fun v69=>
Jb .int .eql v69 (.int .i64 0) fun v70=>
Qa v70 (
kLd g2 l1 (0+14) fun v73=>
Jb .int .eql v73 (.int .u8 0) fun v74=>
Jc K v74 g2 n60) (
Jc K (.bool false) g2 n60)) (
Jb .int .eql v65 (.int .i64 1) fun v77=>
Qa v77 (
XM C K (puts (Xi [a0]) [(1,ptr l1 0),(2,.bool false),(4,(ptr l1 (0+10))),(5,v5),(6,v6),(7,.bool true),(8,undef),(9,undef),(10,undef),(11,.bool true),(3,.bool true),(13,(ptr l1 (0+10))),(14,v14),(15,v15),(16,.bool false),(17,(ptr l1 (0+10))),(18,v18),(19,v19),(20,v19),(21,.bool false),(22,(ptr l1 (0+10))),(23,v23),(24,v24),(25,.bool true),(26,(ptr l1 (0+11))),(27,v27),(28,v28),(29,v28),(30,v28),(12,v28),(32,(ptr l1 (0+0))),(33,v33),(34,v34),(35,.bool false),(36,undef),(37,undef),(38,undef),(39,undef),(40,undef),(41,undef),(42,undef),(43,undef),(44,undef),(45,undef),(46,undef),(47,undef),(48,undef),(49,undef),(50,undef),(51,undef),(52,.bool false),(31,.bool false),(54,(ptr l1 (0+14))),(55,v55),(56,(ptr l1 (0+11))),(57,v57),(58,(ptr l1 (0+10))),(59,v59),(60,v60),(61,v61),(62,v62),(63,v63),(53,v63),(64,(ptr l1 (0+12))),(65,v65),(67,v67),(66,v67),(77,v77),(76,v77)]) g2 n60) (
Jb .int .eql v65 (.int .i64 2) fun v78=>
XM C K (puts (Xi [a0]) [(1,ptr l1 0),(2,.bool false),(4,(ptr l1 (0+10))),(5,v5),(6,v6),(7,.bool true),(8,undef),(9,undef),(10,undef),(11,.bool true),(3,.bool true),(13,(ptr l1 (0+10))),(14,v14),(15,v15),(16,.bool false),(17,(ptr l1 (0+10))),(18,v18),(19,v19),(20,v19),(21,.bool false),(22,(ptr l1 (0+10))),(23,v23),(24,v24),(25,.bool true),(26,(ptr l1 (0+11))),(27,v27),(28,v28),(29,v28),(30,v28),(12,v28),(32,(ptr l1 (0+0))),(33,v33),(34,v34),(35,.bool false),(36,undef),(37,undef),(38,undef),(39,undef),(40,undef),(41,undef),(42,undef),(43,undef),(44,undef),(45,undef),(46,undef),(47,undef),(48,undef),(49,undef),(50,undef),(51,undef),(52,.bool false),(31,.bool false),(54,(ptr l1 (0+14))),(55,v55),(56,(ptr l1 (0+11))),(57,v57),(58,(ptr l1 (0+10))),(59,v59),(60,v60),(61,v61),(62,v62),(63,v63),(53,v63),(64,(ptr l1 (0+12))),(65,v65),(67,v67),(66,v67),(77,v77),(76,v77),(78,v78),(76,v78)]) g2 n60)))))) (
kLd g1 l1 (0+0) fun v33=>
kUn .not v33 fun v34=>
Qa v34 (
kLd g1 l1 (0+1) fun v37=>
Qa v37 (
Jc K (.bool false) g1 n1) (
Jc K (.bool false) g1 n1)) (
kLd g1 l1 (0+14) fun v55=>
kLd g1 l1 (0+11) fun v57=>
kLd g1 l1 (0+10) fun v59=>
C Jt [v59] g1 n1 fun v60 g5 n60=>
(Qd (ptr l1 (0+14)) fun l _=>g5 l=g1 l)∧(Qd (ptr l1 (0+11)) fun l _=>g5 l=g1 l)∧Jb .int .or v57 v60 fun v61=>
Jb .int .andNot v55 v61 fun v62=>
Jb .int .neq v62 (.int .u8 0) fun v63=>
Qa v63 (
Jc K (.bool false) g5 n60) (
kLd g5 l1 (0+12) fun v65=>
Jb .int .eql v65 (.int .i64 0) fun v67=>
Qa v67 (
kLd g5 l1 (0+13) fun v69=>
Jb .int .eql v69 (.int .i64 0) fun v70=>
Qa v70 (
kLd g5 l1 (0+14) fun v73=>
Jb .int .eql v73 (.int .u8 0) fun v74=>
Jc K v74 g5 n60) (
Jc K (.bool false) g5 n60)) (
Jb .int .eql v65 (.int .i64 1) fun v77=>
Qa v77 (
XM C K (puts (Xi [a0]) [(1,ptr l1 0),(2,.bool false),(4,(ptr l1 (0+10))),(5,v5),(6,v6),(7,.bool true),(8,undef),(9,undef),(10,undef),(11,.bool true),(3,.bool true),(13,(ptr l1 (0+10))),(14,v14),(15,v15),(16,.bool false),(17,(ptr l1 (0+10))),(18,v18),(19,v19),(20,v19),(21,.bool false),(22,(ptr l1 (0+10))),(23,v23),(24,v24),(25,.bool false),(26,undef),(27,undef),(28,undef),(29,.bool false),(30,.bool false),(12,.bool false),(32,(ptr l1 (0+0))),(33,v33),(34,v34),(35,.bool false),(36,undef),(37,undef),(38,undef),(39,undef),(40,undef),(41,undef),(42,undef),(43,undef),(44,undef),(45,undef),(46,undef),(47,undef),(48,undef),(49,undef),(50,undef),(51,undef),(52,.bool false),(31,.bool false),(54,(ptr l1 (0+14))),(55,v55),(56,(ptr l1 (0+11))),(57,v57),(58,(ptr l1 (0+10))),(59,v59),(60,v60),(61,v61),(62,v62),(63,v63),(53,v63),(64,(ptr l1 (0+12))),(65,v65),(67,v67),(66,v67),(77,v77),(76,v77)]) g5 n60) (
Jb .int .eql v65 (.int .i64 2) fun v78=>
XM C K (puts (Xi [a0]) [(1,ptr l1 0),(2,.bool false),(4,(ptr l1 (0+10))),(5,v5),(6,v6),(7,.bool true),(8,undef),(9,undef),(10,undef),(11,.bool true),(3,.bool true),(13,(ptr l1 (0+10))),(14,v14),(15,v15),(16,.bool false),(17,(ptr l1 (0+10))),(18,v18),(19,v19),(20,v19),(21,.bool false),(22,(ptr l1 (0+10))),(23,v23),(24,v24),(25,.bool false),(26,undef),(27,undef),(28,undef),(29,.bool false),(30,.bool false),(12,.bool false),(32,(ptr l1 (0+0))),(33,v33),(34,v34),(35,.bool false),(36,undef),(37,undef),(38,undef),(39,undef),(40,undef),(41,undef),(42,undef),(43,undef),(44,undef),(45,undef),(46,undef),(47,undef),(48,undef),(49,undef),(50,undef),(51,undef),(52,.bool false),(31,.bool false),(54,(ptr l1 (0+14))),(55,v55),(56,(ptr l1 (0+11))),(57,v57),(58,(ptr l1 (0+10))),(59,v59),(60,v60),(61,v61),(62,v62),(63,v63),(53,v63),(64,(ptr l1 (0+12))),(65,v65),(67,v67),(66,v67),(77,v77),(76,v77),(78,v78),(76,v78)]) g5 n60)))))))) (
kLd g1 l1 (0+11) fun v9=>
Jb .int .neq v9 (.int .u8 0) fun v10=>
kLd g1 l1 (0+10) fun v14=>
Jb .int .lss v14 (.int .i64 (-1)) fun v15=>
Qa v15 (
Jc K (.bool false) g1 n1) (
kLd g1 l1 (0+10) fun v18=>
Jb .int .geq v18 (.int .i64 8) fun v19=>
Qa v19 (
Jc K (.bool false) g1 n1) (
kLd g1 l1 (0+10) fun v23=>
Jb .int .geq v23 (.int .i64 0) fun v24=>
Qa v24 (
kLd g1 l1 (0+11) fun v27=>
Jb .int .neq v27 (.int .u8 0) fun v28=>
Qa v28 (
Jc K (.bool false) g1 n1) (
kLd g1 l1 (0+0) fun v33=>
kUn .not v33 fun v34=>
Qa v34 (
kLd g1 l1 (0+1) fun v37=>
Qa v37 (
Jc K (.bool false) g1 n1) (
Qa v10 (
Jc K (.bool false) g1 n1) (
kLd g1 l1 (0+12) fun v43=>
Jb .int .neq v43 (.int .i64 0) fun v44=>
Qa v44 (
Jc K (.bool false) g1 n1) (
Qn g1 l1 (0+2) 8 fun c48=>
Qe [.int .u64 0,.int .u64 0,.int .u64 0,.int .u64 0,.int .u64 0,.int .u64 0,.int .u64 0,.int .u64 0] [] fun c49=>
Jb (.agg [.i,.i,.i,.i,.i,.i,.i,.i]) .neq (.agg c48.toArray) (.agg c49.toArray) fun v50=>
Qa v50 (
Jc K (.bool false) g1 n1) (
kLd g1 l1 (0+14) fun v55=>
kLd g1 l1 (0+11) fun v57=>
kLd g1 l1 (0+10) fun v59=>
C Jt [v59] g1 n1 fun v60 g6 n60=>
(Qd (ptr l1 (0+14)) fun l _=>g6 l=g1 l)∧(Qd (ptr l1 (0+11)) fun l _=>g6 l=g1 l)∧Jb .int .or v57 v60 fun v61=>
Jb .int .andNot v55 v61 fun v62=>
Jb .int .neq v62 (.int .u8 0) fun v63=>
Qa v63 (
Jc K (.bool false) g6 n60) (
kLd g6 l1 (0+12) fun v65=>
Jb .int .eql v65 (.int .i64 0) fun v67=>
Qa v67 (
kLd g6 l1 (0+13) fun v69=>
Jb .int .eql v69 (.int .i64 0) fun v70=>
Qa v70 (
kLd g6 l1 (0+14) fun v73=>
Jb .int .eql v73 (.int .u8 0) fun v74=>
Jc K v74 g6 n60) (
Jc K (.bool false) g6 n60)) (
Jb .int .eql v65 (.int .i64 1) fun v77=>
Qa v77 (
XM C K (puts (Xi [a0]) [(1,ptr l1 0),(2,.bool false),(4,(ptr l1 (0+10))),(5,v5),(6,v6),(7,.bool false),(8,(ptr l1 (0+11))),(9,v9),(10,v10),(11,v10),(3,v10),(13,(ptr l1 (0+10))),(14,v14),(15,v15),(16,.bool false),(17,(ptr l1 (0+10))),(18,v18),(19,v19),(20,v19),(21,.bool false),(22,(ptr l1 (0+10))),(23,v23),(24,v24),(25,.bool true),(26,(ptr l1 (0+11))),(27,v27),(28,v28),(29,v28),(30,v28),(12,v28),(32,(ptr l1 (0+0))),(33,v33),(34,v34),(35,.bool true),(36,(ptr l1 (0+1))),(37,v37),(38,.bool false),(39,v10),(40,v10),(41,.bool false),(42,(ptr l1 (0+12))),(43,v43),(44,v44),(45,v44),(46,.bool false),(47,(ptr l1 (0+2))),(48,.agg c48.toArray),(49,.agg c49.toArray),(50,v50),(51,v50),(52,v50),(31,v50),(54,(ptr l1 (0+14))),(55,v55),(56,(ptr l1 (0+11))),(57,v57),(58,(ptr l1 (0+10))),(59,v59),(60,v60),(61,v61),(62,v62),(63,v63),(53,v63),(64,(ptr l1 (0+12))),(65,v65),(67,v67),(66,v67),(77,v77),(76,v77)]) g6 n60) (
Jb .int .eql v65 (.int .i64 2) fun v78=>
XM C K (puts (Xi [a0]) [(1,ptr l1 0),(2,.bool false),(4,(ptr l1 (0+10))),(5,v5),(6,v6),(7,.bool false),(8,(ptr l1 (0+11))),(9,v9),(10,v10),(11,v10),(3,v10),(13,(ptr l1 (0+10))),(14,v14),(15,v15),(16,.bool false),(17,(ptr l1 (0+10))),(18,v18),(19,v19),(20,v19),(21,.bool false),(22,(ptr l1 (0+10))),(23,v23),(24,v24),(25,.bool true),(26,(ptr l1 (0+11))),(27,v27),(28,v28),(29,v28),(30,v28),(12,v28),(32,(ptr l1 (0+0))),(33,v33),(34,v34),(35,.bool true),(36,(ptr l1 (0+1))),(37,v37),(38,.bool false),(39,v10),(40,v10),(41,.bool false),(42,(ptr l1 (0+12))),(43,v43),(44,v44),(45,v44),(46,.bool false),(47,(ptr l1 (0+2))),(48,.agg c48.toArray),(49,.agg c49.toArray),(50,v50),(51,v50),(52,v50),(31,v50),(54,(ptr l1 (0+14))),(55,v55),(56,(ptr l1 (0+11))),(57,v57),(58,(ptr l1 (0+10))),(59,v59),(60,v60),(61,v61),(62,v62),(63,v63),(53,v63),(64,(ptr l1 (0+12))),(65,v65),(67,v67),(66,v67),(77,v77),(76,v77),(78,v78),(76,v78)]) g6 n60)))))))) (
kLd g1 l1 (0+14) fun v55=>
kLd g1 l1 (0+11) fun v57=>
kLd g1 l1 (0+10) fun v59=>
C Jt [v59] g1 n1 fun v60 g7 n60=>
(Qd (ptr l1 (0+14)) fun l _=>g7 l=g1 l)∧(Qd (ptr l1 (0+11)) fun l _=>g7 l=g1 l)∧Jb .int .or v57 v60 fun v61=>
Jb .int .andNot v55 v61 fun v62=>
Jb .int .neq v62 (.int .u8 0) fun v63=>
Qa v63 (
Jc K (.bool false) g7 n60) (
kLd g7 l1 (0+12) fun v65=>
Jb .int .eql v65 (.int .i64 0) fun v67=>
Qa v67 (
kLd g7 l1 (0+13) fun v69=>
Jb .int .eql v69 (.int .i64 0) fun v70=>
Qa v70 (
kLd g7 l1 (0+14) fun v73=>
Jb .int .eql v73 (.int .u8 0) fun v74=>
Jc K v74 g7 n60) (
Jc K (.bool false) g7 n60)) (
Jb .int .eql v65 (.int .i64 1) fun v77=>
Qa v77 (
XM C K (puts (Xi [a0]) [(1,ptr l1 0),(2,.bool false),(4,(ptr l1 (0+10))),(5,v5),(6,v6),(7,.bool false),(8,(ptr l1 (0+11))),(9,v9),(10,v10),(11,v10),(3,v10),(13,(ptr l1 (0+10))),(14,v14),(15,v15),(16,.bool false),(17,(ptr l1 (0+10))),(18,v18),(19,v19),(20,v19),(21,.bool false),(22,(ptr l1 (0+10))),(23,v23),(24,v24),(25,.bool true),(26,(ptr l1 (0+11))),(27,v27),(28,v28),(29,v28),(30,v28),(12,v28),(32,(ptr l1 (0+0))),(33,v33),(34,v34),(35,.bool false),(36,undef),(37,undef),(38,undef),(39,undef),(40,undef),(41,undef),(42,undef),(43,undef),(44,undef),(45,undef),(46,undef),(47,undef),(48,undef),(49,undef),(50,undef),(51,undef),(52,.bool false),(31,.bool false),(54,(ptr l1 (0+14))),(55,v55),(56,(ptr l1 (0+11))),(57,v57),(58,(ptr l1 (0+10))),(59,v59),(60,v60),(61,v61),(62,v62),(63,v63),(53,v63),(64,(ptr l1 (0+12))),(65,v65),(67,v67),(66,v67),(77,v77),(76,v77)]) g7 n60) (
Jb .int .eql v65 (.int .i64 2) fun v78=>
XM C K (puts (Xi [a0]) [(1,ptr l1 0),(2,.bool false),(4,(ptr l1 (0+10))),(5,v5),(6,v6),(7,.bool false),(8,(ptr l1 (0+11))),(9,v9),(10,v10),(11,v10),(3,v10),(13,(ptr l1 (0+10))),(14,v14),(15,v15),(16,.bool false),(17,(ptr l1 (0+10))),(18,v18),(19,v19),(20,v19),(21,.bool false),(22,(ptr l1 (0+10))),(23,v23),(24,v24),(25,.bool true),(26,(ptr l1 (0+11))),(27,v27),(28,v28),(29,v28),(30,v28),(12,v28),(32,(ptr l1 (0+0))),(33,v33),(34,v34),(35,.bool false),(36,undef),(37,undef),(38,undef),(39,undef),(40,undef),(41,undef),(42,undef),(43,undef),(44,undef),(45,undef),(46,undef),(47,undef),(48,undef),(49,undef),(50,undef),(51,undef),(52,.bool false),(31,.bool false),(54,(ptr l1 (0+14))),(55,v55),(56,(ptr l1 (0+11))),(57,v57),(58,(ptr l1 (0+10))),(59,v59),(60,v60),(61,v61),(62,v62),(63,v63),(53,v63),(64,(ptr l1 (0+12))),(65,v65),(67,v67),(66,v67),(77,v77),(76,v77),(78,v78),(76,v78)]) g7 n60)))))) (
kLd g1 l1 (0+0) fun v33=>
kUn .not v33 fun v34=>
Qa v34 (
kLd g1 l1 (0+1) fun v37=>
Qa v37 (
Jc K (.bool false) g1 n1) (
Qa v10 (
Jc K (.bool false) g1 n1) (
kLd g1 l1 (0+12) fun v43=>
Jb .int .neq v43 (.int .i64 0) fun v44=>
Qa v44 (
Jc K (.bool false) g1 n1) (
Qn g1 l1 (0+2) 8 fun c48=>
Qe [.int .u64 0,.int .u64 0,.int .u64 0,.int .u64 0,.int .u64 0,.int .u64 0,.int .u64 0,.int .u64 0] [] fun c49=>
Jb (.agg [.i,.i,.i,.i,.i,.i,.i,.i]) .neq (.agg c48.toArray) (.agg c49.toArray) fun v50=>
Qa v50 (
Jc K (.bool false) g1 n1) (
kLd g1 l1 (0+14) fun v55=>
kLd g1 l1 (0+11) fun v57=>
kLd g1 l1 (0+10) fun v59=>
C Jt [v59] g1 n1 fun v60 g8 n60=>
(Qd (ptr l1 (0+14)) fun l _=>g8 l=g1 l)∧(Qd (ptr l1 (0+11)) fun l _=>g8 l=g1 l)∧Jb .int .or v57 v60 fun v61=>
Jb .int .andNot v55 v61 fun v62=>
Jb .int .neq v62 (.int .u8 0) fun v63=>
Qa v63 (
Jc K (.bool false) g8 n60) (
kLd g8 l1 (0+12) fun v65=>
Jb .int .eql v65 (.int .i64 0) fun v67=>
Qa v67 (
kLd g8 l1 (0+13) fun v69=>
Jb .int .eql v69 (.int .i64 0) fun v70=>
Qa v70 (
kLd g8 l1 (0+14) fun v73=>
Jb .int .eql v73 (.int .u8 0) fun v74=>
Jc K v74 g8 n60) (
Jc K (.bool false) g8 n60)) (
Jb .int .eql v65 (.int .i64 1) fun v77=>
Qa v77 (
XM C K (puts (Xi [a0]) [(1,ptr l1 0),(2,.bool false),(4,(ptr l1 (0+10))),(5,v5),(6,v6),(7,.bool false),(8,(ptr l1 (0+11))),(9,v9),(10,v10),(11,v10),(3,v10),(13,(ptr l1 (0+10))),(14,v14),(15,v15),(16,.bool false),(17,(ptr l1 (0+10))),(18,v18),(19,v19),(20,v19),(21,.bool false),(22,(ptr l1 (0+10))),(23,v23),(24,v24),(25,.bool false),(26,undef),(27,undef),(28,undef),(29,.bool false),(30,.bool false),(12,.bool false),(32,(ptr l1 (0+0))),(33,v33),(34,v34),(35,.bool true),(36,(ptr l1 (0+1))),(37,v37),(38,.bool false),(39,v10),(40,v10),(41,.bool false),(42,(ptr l1 (0+12))),(43,v43),(44,v44),(45,v44),(46,.bool false),(47,(ptr l1 (0+2))),(48,.agg c48.toArray),(49,.agg c49.toArray),(50,v50),(51,v50),(52,v50),(31,v50),(54,(ptr l1 (0+14))),(55,v55),(56,(ptr l1 (0+11))),(57,v57),(58,(ptr l1 (0+10))),(59,v59),(60,v60),(61,v61),(62,v62),(63,v63),(53,v63),(64,(ptr l1 (0+12))),(65,v65),(67,v67),(66,v67),(77,v77),(76,v77)]) g8 n60) (
Jb .int .eql v65 (.int .i64 2) fun v78=>
XM C K (puts (Xi [a0]) [(1,ptr l1 0),(2,.bool false),(4,(ptr l1 (0+10))),(5,v5),(6,v6),(7,.bool false),(8,(ptr l1 (0+11))),(9,v9),(10,v10),(11,v10),(3,v10),(13,(ptr l1 (0+10))),(14,v14),(15,v15),(16,.bool false),(17,(ptr l1 (0+10))),(18,v18),(19,v19),(20,v19),(21,.bool false),(22,(ptr l1 (0+10))),(23,v23),(24,v24),(25,.bool false),(26,undef),(27,undef),(28,undef),(29,.bool false),(30,.bool false),(12,.bool false),(32,(ptr l1 (0+0))),(33,v33),(34,v34),(35,.bool true),(36,(ptr l1 (0+1))),(37,v37),(38,.bool false),(39,v10),(40,v10),(41,.bool false),(42,(ptr l1 (0+12))),(43,v43),(44,v44),(45,v44),(46,.bool false),(47,(ptr l1 (0+2))),(48,.agg c48.toArray),(49,.agg c49.toArray),(50,v50),(51,v50),(52,v50),(31,v50),(54,(ptr l1 (0+14))),(55,v55),(56,(ptr l1 (0+11))),(57,v57),(58,(ptr l1 (0+10))),(59,v59),(60,v60),(61,v61),(62,v62),(63,v63),(53,v63),(64,(ptr l1 (0+12))),(65,v65),(67,v67),(66,v67),(77,v77),(76,v77),(78,v78),(76,v78)]) g8 n60)))))))) (
kLd g1 l1 (0+14) fun v55=>
kLd g1 l1 (0+11) fun v57=>
kLd g1 l1 (0+10) fun v59=>
C Jt [v59] g1 n1 fun v60 g9 n60=>
(Qd (ptr l1 (0+14)) fun l _=>g9 l=g1 l)∧(Qd (ptr l1 (0+11)) fun l _=>g9 l=g1 l)∧Jb .int .or v57 v60 fun v61=>
Jb .int .andNot v55 v61 fun v62=>
Jb .int .neq v62 (.int .u8 0) fun v63=>
Qa v63 (
Jc K (.bool false) g9 n60) (
kLd g9 l1 (0+12) fun v65=>
Jb .int .eql v65 (.int .i64 0) fun v67=>
Qa v67 (
kLd g9 l1 (0+13) fun v69=>
Jb .int .eql v69 (.int .i64 0) fun v70=>
Qa v70 (
kLd g9 l1 (0+14) fun v73=>
Jb .int .eql v73 (.int .u8 0) fun v74=>
Jc K v74 g9 n60) (
Jc K (.bool false) g9 n60)) (
Jb .int .eql v65 (.int .i64 1) fun v77=>
Qa v77 (
XM C K (puts (Xi [a0]) [(1,ptr l1 0),(2,.bool false),(4,(ptr l1 (0+10))),(5,v5),(6,v6),(7,.bool false),(8,(ptr l1 (0+11))),(9,v9),(10,v10),(11,v10),(3,v10),(13,(ptr l1 (0+10))),(14,v14),(15,v15),(16,.bool false),(17,(ptr l1 (0+10))),(18,v18),(19,v19),(20,v19),(21,.bool false),(22,(ptr l1 (0+10))),(23,v23),(24,v24),(25,.bool false),(26,undef),(27,undef),(28,undef),(29,.bool false),(30,.bool false),(12,.bool false),(32,(ptr l1 (0+0))),(33,v33),(34,v34),(35,.bool false),(36,undef),(37,undef),(38,undef),(39,undef),(40,undef),(41,undef),(42,undef),(43,undef),(44,undef),(45,undef),(46,undef),(47,undef),(48,undef),(49,undef),(50,undef),(51,undef),(52,.bool false),(31,.bool false),(54,(ptr l1 (0+14))),(55,v55),(56,(ptr l1 (0+11))),(57,v57),(58,(ptr l1 (0+10))),(59,v59),(60,v60),(61,v61),(62,v62),(63,v63),(53,v63),(64,(ptr l1 (0+12))),(65,v65),(67,v67),(66,v67),(77,v77),(76,v77)]) g9 n60) (
Jb .int .eql v65 (.int .i64 2) fun v78=>
XM C K (puts (Xi [a0]) [(1,ptr l1 0),(2,.bool false),(4,(ptr l1 (0+10))),(5,v5),(6,v6),(7,.bool false),(8,(ptr l1 (0+11))),(9,v9),(10,v10),(11,v10),(3,v10),(13,(ptr l1 (0+10))),(14,v14),(15,v15),(16,.bool false),(17,(ptr l1 (0+10))),(18,v18),(19,v19),(20,v19),(21,.bool false),(22,(ptr l1 (0+10))),(23,v23),(24,v24),(25,.bool false),(26,undef),(27,undef),(28,undef),(29,.bool false),(30,.bool false),(12,.bool false),(32,(ptr l1 (0+0))),(33,v33),(34,v34),(35,.bool false),(36,undef),(37,undef),(38,undef),(39,undef),(40,undef),(41,undef),(42,undef),(43,undef),(44,undef),(45,undef),(46,undef),(47,undef),(48,undef),(49,undef),(50,undef),(51,undef),(52,.bool false),(31,.bool false),(54,(ptr l1 (0+14))),(55,v55),(56,(ptr l1 (0+11))),(57,v57),(58,(ptr l1 (0+10))),(59,v59),(60,v60),(61,v61),(62,v62),(63,v63),(53,v63),(64,(ptr l1 (0+12))),(65,v65),(67,v67),(66,v67),(77,v77),(76,v77),(78,v78),(76,v78)]) g9 n60))))))))
theorem QeI (C:CT) (a0:Value) (g:G) (n:Nat) (K:Cont):JeW C a0 g n K=Zf Tryz.prog C Qa2 [a0] g n K:=by kernel_rfl
def XeN (C:CT) (a0:Value) (g:G) (n:Nat) (K:Cont):Prop:=
Jb .int .geq a0 (.int .i64 0) fun v4=>
Qa v4 (
Jb .int .lss a0 (.int .i64 8) fun v7=>
Jc K v7 g n) (
Jc K (.bool false) g n)
theorem Jeu (C:CT) (a0:Value) (g:G) (n:Nat) (K:Cont):XeN C a0 g n K=Zf Tryz.prog C JaN [a0] g n K:=by kernel_rfl
def Xay (C:CT) (K:Cont) (t:Env) (g:G) (n:Nat):Prop:=
Qd (t 1) fun l41 o41=>
kLd g l41 (o41+2) fun v42=>
Qa v42 (
Jc K (.bool true) g n) (
Jb .int .and (t 3) (.int .i64 4) fun v45=>
Jb .int .neq v45 (.int .i64 0) fun v46=>
Qa v46 (
Jc K (.bool true) g n) (
Qd (t 1) fun l49 o49=>
Qn g l49 (o49+4) 8 fun c50=>
Qe [.int .u64 0,.int .u64 0,.int .u64 0,.int .u64 0,.int .u64 0,.int .u64 0,.int .u64 0,.int .u64 0] [] fun c51=>
Jb (.agg [.i,.i,.i,.i,.i,.i,.i,.i]) .eql (.agg c50.toArray) (.agg c51.toArray) fun v52=>
Jc K v52 g n))
def QeP (C:CT) (a0:Value) (g:G) (n:Nat) (K:Cont):Prop:=
Zm a0 fun c1=>
Qp c1 .exact g n fun l1 g1 n1=>
kLd g1 l1 (0+0) fun v5=>
Jb .int .lss v5 (.int .i64 1) fun v6=>
Qa v6 (
Jc K (.bool false) g1 n1) (
kLd g1 l1 (0+0) fun v9=>
Jb .int .gtr v9 (.int .i64 14) fun v10=>
Qa v10 (
Jc K (.bool false) g1 n1) (
kLd g1 l1 (0+1) fun v14=>
Jb .int .lss v14 (.int .i64 0) fun v15=>
Qa v15 (
Jc K (.bool false) g1 n1) (
kLd g1 l1 (0+1) fun v19=>
Jb .int .geq v19 (.int .i64 64) fun v20=>
Qa v20 (
Jc K (.bool false) g1 n1) (
kLd g1 l1 (0+0) fun v24=>
C JdH [] g1 n1 fun v22 g2 n22=>
(Qd (ptr l1 (0+0)) fun l _=>g2 l=g1 l)∧ZdT v22 v24 15 1 none fun v25=>
kLd g2 l1 (0+2) fun v28=>
Qa v28 (
Jb .int .and v25 (.int .i64 1) fun v31=>
Jb .int .eql v31 (.int .i64 0) fun v32=>
Qa v32 (
Qa v32 (
Jc K (.bool false) g2 n22) (
Xay C K (puts (Xi [a0]) [(1,ptr l1 0),(2,.bool false),(4,(ptr l1 (0+0))),(5,v5),(6,v6),(7,.bool false),(8,(ptr l1 (0+0))),(9,v9),(10,v10),(11,v10),(12,.bool false),(13,(ptr l1 (0+1))),(14,v14),(15,v15),(16,v15),(17,.bool false),(18,(ptr l1 (0+1))),(19,v19),(20,v20),(21,v20),(23,(ptr l1 (0+0))),(24,v24),(22,v22),(25,v25),(3,v25),(27,(ptr l1 (0+2))),(28,v28),(29,.bool true),(30,v25),(31,v31),(32,v32),(33,v32),(26,v32)]) g2 n22)) (
kLd g2 l1 (0+3) fun v35=>
Qa v35 (
Jb .int .and v25 (.int .i64 2) fun v38=>
Jb .int .eql v38 (.int .i64 0) fun v39=>
Qa v39 (
Jc K (.bool false) g2 n22) (
Xay C K (puts (Xi [a0]) [(1,ptr l1 0),(2,.bool false),(4,(ptr l1 (0+0))),(5,v5),(6,v6),(7,.bool false),(8,(ptr l1 (0+0))),(9,v9),(10,v10),(11,v10),(12,.bool false),(13,(ptr l1 (0+1))),(14,v14),(15,v15),(16,v15),(17,.bool false),(18,(ptr l1 (0+1))),(19,v19),(20,v20),(21,v20),(23,(ptr l1 (0+0))),(24,v24),(22,v22),(25,v25),(3,v25),(27,(ptr l1 (0+2))),(28,v28),(29,.bool true),(30,v25),(31,v31),(32,v32),(33,v32),(26,v32),(34,(ptr l1 (0+3))),(35,v35),(36,.bool true),(37,v25),(38,v38),(39,v39),(40,v39),(26,v39)]) g2 n22)) (
Xay C K (puts (Xi [a0]) [(1,ptr l1 0),(2,.bool false),(4,(ptr l1 (0+0))),(5,v5),(6,v6),(7,.bool false),(8,(ptr l1 (0+0))),(9,v9),(10,v10),(11,v10),(12,.bool false),(13,(ptr l1 (0+1))),(14,v14),(15,v15),(16,v15),(17,.bool false),(18,(ptr l1 (0+1))),(19,v19),(20,v20),(21,v20),(23,(ptr l1 (0+0))),(24,v24),(22,v22),(25,v25),(3,v25),(27,(ptr l1 (0+2))),(28,v28),(29,.bool true),(30,v25),(31,v31),(32,v32),(33,v32),(26,v32),(34,(ptr l1 (0+3))),(35,v35),(36,.bool false),(37,undef),(38,undef),(39,undef),(40,.bool false),(26,.bool false)]) g2 n22))) (
kLd g2 l1 (0+3) fun v35=>
Qa v35 (
Jb .int .and v25 (.int .i64 2) fun v38=>
Jb .int .eql v38 (.int .i64 0) fun v39=>
Qa v39 (
Jc K (.bool false) g2 n22) (
Xay C K (puts (Xi [a0]) [(1,ptr l1 0),(2,.bool false),(4,(ptr l1 (0+0))),(5,v5),(6,v6),(7,.bool false),(8,(ptr l1 (0+0))),(9,v9),(10,v10),(11,v10),(12,.bool false),(13,(ptr l1 (0+1))),(14,v14),(15,v15),(16,v15),(17,.bool false),(18,(ptr l1 (0+1))),(19,v19),(20,v20),(21,v20),(23,(ptr l1 (0+0))),(24,v24),(22,v22),(25,v25),(3,v25),(27,(ptr l1 (0+2))),(28,v28),(29,.bool false),(30,undef),(31,undef),(32,undef),(33,.bool false),(26,.bool false),(34,(ptr l1 (0+3))),(35,v35),(36,.bool true),(37,v25),(38,v38),(39,v39),(40,v39),(26,v39)]) g2 n22)) (
Xay C K (puts (Xi [a0]) [(1,ptr l1 0),(2,.bool false),(4,(ptr l1 (0+0))),(5,v5),(6,v6),(7,.bool false),(8,(ptr l1 (0+0))),(9,v9),(10,v10),(11,v10),(12,.bool false),(13,(ptr l1 (0+1))),(14,v14),(15,v15),(16,v15),(17,.bool false),(18,(ptr l1 (0+1))),(19,v19),(20,v20),(21,v20),(23,(ptr l1 (0+0))),(24,v24),(22,v22),(25,v25),(3,v25),(27,(ptr l1 (0+2))),(28,v28),(29,.bool false),(30,undef),(31,undef),(32,undef),(33,.bool false),(26,.bool false),(34,(ptr l1 (0+3))),(35,v35),(36,.bool false),(37,undef),(38,undef),(39,undef),(40,.bool false),(26,.bool false)]) g2 n22))))))
theorem JeE (C:CT) (a0:Value) (g:G) (n:Nat) (K:Cont):QeP C a0 g n K=Zf Tryz.prog C ZaM [a0] g n K:=by kernel_rfl
def JeU (C:CT) (a0:Value) (g:G) (n:Nat) (K:Cont):Prop:=
Jb .int .geq a0 (.int .i64 1) fun v4=>
Qa v4 (
Jb .int .leq a0 (.int .i64 5) fun v7=>
Jc K v7 g n) (
Jc K (.bool false) g n)
theorem QeK (C:CT) (a0:Value) (g:G) (n:Nat) (K:Cont):JeU C a0 g n K=Zf Tryz.prog C Xcb [a0] g n K:=by kernel_rfl
def Xe1 (C:CT) (g:G) (n:Nat) (K:Cont):Prop:=
Qp [.nilFunc,.nilFunc,.nilFunc,.nilFunc,.nilFunc,.nilFunc] .exact g n fun l0 g1 n0=>
Qe [.nilFunc,.nilFunc,.nilFunc,.nilFunc,.nilFunc,.nilFunc] [(1,none,(.func (.func Zaw) #[] #[])),(2,none,(.func (.func Xav) #[] #[])),(3,none,(.func (.func JaF) #[] #[])),(4,none,(.func (.func Jao) #[] #[])),(5,none,(.func (.func Qav) #[] #[]))] fun c1=>
Zm (.agg c1.toArray) fun cg2=>
cg2.length=6∧Js g1 l0 0 cg2 fun g2=>
Qn g2 l0 0 6 fun r0=>
Jc K (.agg r0.toArray) g2 n0
theorem Jes (C:CT) (g:G) (n:Nat) (K:Cont):Xe1 C g n K=Zf Tryz.prog C Jcj [] g n K:=by kernel_rfl
def Jei (C:CT) (a0:Value) (g:G) (n:Nat) (K:Cont):Prop:=
Jb .int .geq a0 (.int .i64 8) fun v4=>
Qa v4 (
Jb .int .leq a0 (.int .i64 14) fun v7=>
Jc K v7 g n) (
Jc K (.bool false) g n)
theorem Xen (C:CT) (a0:Value) (g:G) (n:Nat) (K:Cont):Jei C a0 g n K=Zf Tryz.prog C JbT [a0] g n K:=by kernel_rfl
def XbA (C:CT) (a0 a1:Value) (g:G) (n:Nat) (K:Cont):Prop:=
Qp [.int .i64 0,.int .i64 0,.int .u64 0,.int .u64 0,.int .u64 0,.int .u64 0,.int .u64 0,.int .u64 0,.int .u64 0,.int .u64 0,.int .i64 0] .exact g n fun l4 g1 n4=>
Qg a0 fun v9=>
Qd v9 fun l10 o10=>
kLd g1 l10 (o10+0) fun v11=>
C JaA [v11,a1] g1 n4 fun v13 g2 n13=>
Zc v13 0 fun v14=>
Zc v13 1 fun v15=>
Qp [.int .i64 0,.int .i64 0,.int .u64 0,.int .u64 0,.int .u64 0,.int .u64 0,.int .u64 0,.int .u64 0,.int .u64 0,.int .u64 0,.int .i64 0] .exact g2 n13 fun l5 g3 n5=>
Zm v14 fun cg4=>
cg4.length=11∧Js g3 l5 0 cg4 fun g4=>
Qn g4 l5 0 11 fun c16=>
Zm (.agg c16.toArray) fun cg5=>
cg5.length=11∧Js g4 l4 0 cg5 fun g5=>
Qn g5 l4 0 11 fun r0=>
Jc K (.agg r0.toArray) g5 n5
theorem Xcg (C:CT) (a0 a1:Value) (g:G) (n:Nat) (K:Cont):XbA C a0 a1 g n K=Zf Tryz.prog C Qs [a0,a1] g n K:=by kernel_rfl
def Xad (C:CT) (K:Cont) (t:Env) (g:G) (n:Nat):Prop:=
Jb .int .geq (t 5) (.int .i64 0) fun v18=>
Jc K v18 g n
def QbE (C:CT) (a0 a1:Value) (g:G) (n:Nat) (K:Cont):Prop:=
C ZS [a0,a1] g n fun v8 g1 n8=>
Jb .int .geq v8 (.int .i64 0) fun v10=>
Qa v10 (
C Jy [a0,a1] g1 n8 fun v13 g2 n13=>
Qe [.int .i64 0,.int .i64 0,.int .u64 0,.int .u64 0,.int .u64 0,.int .u64 0,.int .u64 0,.int .u64 0,.int .u64 0,.int .u64 0,.int .i64 0] [] fun c15=>
Jd v13 v8 11 fun v16=>
Qd v16 fun lg3 og3=>
Zm (.agg c15.toArray) fun cg3=>
cg3.length=11∧Js g2 lg3 og3 cg3 fun g3=>
Xad C K (puts (Xi [a0,a1]) [(4,.bool false),(6,a0),(7,a1),(8,v8),(5,v8),(9,v8),(10,v10),(11,a0),(12,a1),(13,v13),(14,v8),(15,.agg c15.toArray),(16,v16)]) g3 n13) (
Xad C K (puts (Xi [a0,a1]) [(4,.bool false),(6,a0),(7,a1),(8,v8),(5,v8),(9,v8),(10,v10)]) g1 n8)
theorem Zcb (C:CT) (a0 a1:Value) (g:G) (n:Nat) (K:Cont):QbE C a0 a1 g n K=Zf Tryz.prog C XaA [a0,a1] g n K:=by kernel_rfl
def Zaa (C:CT) (K:Cont) (t:Env) (g:G) (n:Nat):Prop:=
Qd (t 7) fun l34 o34=>
Qn g l34 o34 12 fun c34=>
Qe (reps 1 [.int .i64 0,.int .i64 0,.bool false,.bool false,.int .u64 0,.int .u64 0,.int .u64 0,.int .u64 0,.int .u64 0,.int .u64 0,.int .u64 0,.int .u64 0]) [(0,some 12,.agg c34.toArray)] fun c35=>
Qp c35 .exact g n fun l35 g8 n35=>
Jc K (.slice (some ⟨l35,0,none⟩) 1 1) g8 n35
def ZaJ (C:CT) (K:Cont) (t:Env) (g:G) (n:Nat):Prop:=
Qd (t 4) fun l22 o22=>
kLd g l22 (o22+0) fun v23=>
Jb .int .eql v23 (.int .i64 3) fun v24=>
Qa v24 (
Qd (t 4) fun l30 o30=>
Qn g l30 (o30+2) 8 fun c31=>
Qd (t 7) fun l32 o32=>
kSt g l32 (o32+2) (.bool true) fun g6=>
(Qd (ptr l30 (o30+2)) fun l _=>g6 l=g l)∧Qd (t 7) fun l33 o33=>
Zm (.agg c31.toArray) fun cg7=>
cg7.length=8∧Js g6 l33 (o33+4) cg7 fun g7=>
Zaa C K (puts t [(22,(ptr l22 (o22+0))),(23,v23),(24,v24),(25,.bool true),(26,undef),(27,undef),(28,undef),(29,.bool true),(30,(ptr l30 (o30+2))),(31,.agg c31.toArray),(32,(ptr l32 (o32+2))),(33,(ptr l33 (o33+4)))]) g7 n) (
Qd (t 4) fun l26 o26=>
kLd g l26 (o26+0) fun v27=>
Jb .int .eql v27 (.int .i64 9) fun v28=>
Qa v28 (
Qd (t 4) fun l30 o30=>
Qn g l30 (o30+2) 8 fun c31=>
Qd (t 7) fun l32 o32=>
kSt g l32 (o32+2) (.bool true) fun g9=>
(Qd (ptr l30 (o30+2)) fun l _=>g9 l=g l)∧Qd (t 7) fun l33 o33=>
Zm (.agg c31.toArray) fun cg10=>
cg10.length=8∧Js g9 l33 (o33+4) cg10 fun g10=>
Zaa C K (puts t [(22,(ptr l22 (o22+0))),(23,v23),(24,v24),(25,.bool false),(26,(ptr l26 (o26+0))),(27,v27),(28,v28),(29,v28),(30,(ptr l30 (o30+2))),(31,.agg c31.toArray),(32,(ptr l32 (o32+2))),(33,(ptr l33 (o33+4)))]) g10 n) (
Zaa C K (puts t [(22,(ptr l22 (o22+0))),(23,v23),(24,v24),(25,.bool false),(26,(ptr l26 (o26+0))),(27,v27),(28,v28),(29,v28)]) g n))
def QcM (C:CT) (a0 a1 a2:Value) (g:G) (n:Nat) (K:Cont):Prop:=
Zm a0 fun c3=>
Qp c3 .exact g n fun l3 g1 n3=>
Zm a1 fun c4=>
Qp c4 .exact g1 n3 fun l4 g2 n4=>
kLd g2 l3 (0+1) fun v9=>
Qe [.int .i64 0,.int .i64 0,.bool false,.bool false,.int .u64 0,.int .u64 0,.int .u64 0,.int .u64 0,.int .u64 0,.int .u64 0,.int .u64 0,.int .u64 0] [(1,none,v9)] fun c10=>
Qp [.int .i64 0,.int .i64 0,.bool false,.bool false,.int .u64 0,.int .u64 0,.int .u64 0,.int .u64 0,.int .u64 0,.int .u64 0,.int .u64 0,.int .u64 0] .exact g2 n4 fun l7 g3 n7=>
Zm (.agg c10.toArray) fun cg4=>
cg4.length=12∧Js g3 l7 0 cg4 fun g4=>
kLd g4 l3 (0+0) fun v12=>
Jb .int .eql v12 (.int .i64 12) fun v14=>
Qa v14 (
kSt g4 l7 (0+0) (.int .i64 6) fun g5=>
ZaJ C K (puts (Xi [a0,a1,a2]) [(3,ptr l3 0),(4,ptr l4 0),(6,.slice none 0 0),(8,(ptr l3 (0+1))),(9,v9),(10,.agg c10.toArray),(7,ptr l7 0),(11,(ptr l3 (0+0))),(12,v12),(14,v14),(13,v14),(15,(ptr l7 (0+0)))]) g5 n7) (
Jb .int .eql v12 (.int .i64 13) fun v17=>
Qa v17 (
Jb .int .eql a2 (.int .i64 1) fun v19=>
kSt g4 l7 (0+0) (.int .i64 7) fun g11=>
kSt g11 l7 (0+3) v19 fun g12=>
ZaJ C K (puts (Xi [a0,a1,a2]) [(3,ptr l3 0),(4,ptr l4 0),(6,.slice none 0 0),(8,(ptr l3 (0+1))),(9,v9),(10,.agg c10.toArray),(7,ptr l7 0),(11,(ptr l3 (0+0))),(12,v12),(14,v14),(13,v14),(17,v17),(16,v17),(18,a2),(19,v19),(20,(ptr l7 (0+0))),(21,(ptr l7 (0+3)))]) g12 n7) (
Jc K (.slice none 0 0) g4 n7))
theorem Xc2 (C:CT) (a0 a1 a2:Value) (g:G) (n:Nat) (K:Cont):QcM C a0 a1 a2 g n K=Zf Tryz.prog C XaG [a0,a1,a2] g n K:=by kernel_rfl
def Jag (C:CT) (K:Cont) (t:Env) (g:G) (n:Nat):Prop:=
Jb .int .lss (t 9) (.int .i64 0) fun v36=>
Qa v36 (
Jc K (.int .i64 13) g n) (
Qd (t 7) fun l41 o41=>
Qn g l41 o41 8 fun c41=>
C X1 [t 0] g n fun v43 g5 n43=>
(Qd (t 7) fun l _=>g5 l=g l)∧Qe [.int .i64 0,.int .i64 0,.int .u64 0,.int .u64 0,.int .u64 0,.int .u64 0,.int .u64 0,.int .u64 0,.int .u64 0,.int .u64 0,.int .i64 0] [(0,none,t 2),(1,none,t 1),(2,some 8,.agg c41.toArray),(10,none,v43)] fun c44=>
Jd (t 10) (t 9) 11 fun v45=>
Qd v45 fun lg6 og6=>
Zm (.agg c44.toArray) fun cg6=>
cg6.length=11∧Js g5 lg6 og6 cg6 fun g6=>
Jc K (.int .i64 0) g6 n43)
def ZbO (C:CT) (a0 a1 a2 a3:Value) (g:G) (n:Nat) (K:Cont):Prop:=
Zm a3 fun c7=>
Qp c7 .exact g n fun l7 g1 n7=>
Jb .ptr .eql a0 (.pointer none) fun v12=>
Qa v12 (
Jc K (.int .i64 1) g1 n7) (
Jb .int .lss a1 (.int .i64 0) fun v15=>
Qa v15 (
Jc K (.int .i64 1) g1 n7) (
Jb .int .lss a2 (.int .i64 1) fun v19=>
Qa v19 (
Jc K (.int .i64 1) g1 n7) (
Jb .int .gtr a2 (.int .i64 9) fun v23=>
Qa v23 (
Jc K (.int .i64 1) g1 n7) (
C ZS [a0,a1] g1 n7 fun v27 g2 n27=>
C Jy [a0,a1] g2 n27 fun v30 g3 n30=>
Jb .int .lss v27 (.int .i64 0) fun v32=>
Qa v32 (
C Xh [v30,(.func (.func QaP) #[] #[])] g3 n30 fun v34 g4 n34=>
Jag C K (puts (Xi [a0,a1,a2,a3]) [(7,ptr l7 0),(8,.int .i64 0),(11,a0),(12,v12),(13,.bool false),(14,a1),(15,v15),(16,v15),(17,.bool false),(18,a2),(19,v19),(20,v19),(21,.bool false),(22,a2),(23,v23),(24,v23),(25,a0),(26,a1),(27,v27),(28,a0),(29,a1),(30,v30),(9,v27),(10,v30),(31,v27),(32,v32),(33,v30),(34,v34),(9,v34)]) g4 n34) (
Jag C K (puts (Xi [a0,a1,a2,a3]) [(7,ptr l7 0),(8,.int .i64 0),(11,a0),(12,v12),(13,.bool false),(14,a1),(15,v15),(16,v15),(17,.bool false),(18,a2),(19,v19),(20,v19),(21,.bool false),(22,a2),(23,v23),(24,v23),(25,a0),(26,a1),(27,v27),(28,a0),(29,a1),(30,v30),(9,v27),(10,v30),(31,v27),(32,v32)]) g3 n30)))))
theorem Xcr (C:CT) (a0 a1 a2 a3:Value) (g:G) (n:Nat) (K:Cont):ZbO C a0 a1 a2 a3 g n K=Zf Tryz.prog C QL [a0,a1,a2,a3] g n K:=by kernel_rfl
def Xdd (C:CT) (a0:Value) (g:G) (n:Nat) (K:Cont):Prop:=
Jb .int .eql a0 (.int .i64 6) fun v4=>
Qa v4 (
Jc K (.bool true) g n) (
Jb .int .eql a0 (.int .i64 7) fun v7=>
Jc K v7 g n)
theorem Zdt (C:CT) (a0:Value) (g:G) (n:Nat) (K:Cont):Xdd C a0 g n K=Zf Tryz.prog C Jbf [a0] g n K:=by kernel_rfl
def XeW (C:CT) (a0 a1:Value) (g:G) (n:Nat) (K:Cont):Prop:=
C Jt [a1] g n fun v7 g1 n7=>
Jb .int .and a0 v7 fun v8=>
Jb .int .neq v8 (.int .u8 0) fun v9=>
Jc K v9 g1 n7
theorem Xez (C:CT) (a0 a1:Value) (g:G) (n:Nat) (K:Cont):XeW C a0 a1 g n K=Zf Tryz.prog C Qbs [a0,a1] g n K:=by kernel_rfl
def JeP (C:CT) (a0:Value) (g:G) (n:Nat) (K:Cont):Prop:=
Jb .int .lss a0 (.int .i64 0) fun v4=>
Qa v4 (
Jc K (.int .u8 0) g n) (
Jb .int .geq a0 (.int .i64 8) fun v7=>
Qa v7 (
Jc K (.int .u8 0) g n) (
Jb .int .shl (.int .u8 1) a0 fun v10=>
Jc K v10 g n))
theorem QeB (C:CT) (a0:Value) (g:G) (n:Nat) (K:Cont):JeP C a0 g n K=Zf Tryz.prog C Jt [a0] g n K:=by kernel_rfl
def Zcx (C:CT) (a0 a1:Value) (g:G) (n:Nat) (K:Cont):Prop:=
Zm a1 fun c3=>
Qp c3 .exact g n fun l3 g1 n3=>
kLd g1 l3 (0+2) fun v5=>
Qa v5 (
Qn g1 l3 (0+4) 8 fun c9=>
Qg a0 fun v10=>
Qd v10 fun l11 o11=>
Zm (.agg c9.toArray) fun cg2=>
cg2.length=8∧Js g1 l11 (o11+0+2) cg2 fun g2=>
Qg a0 fun v13=>
Qd v13 fun l14 o14=>
kSt g2 l14 (o14+0+1) (.bool true) fun g3=>
Jc K (.tuple #[]) g3 n3) (
Jc K (.tuple #[]) g1 n3)
theorem QcV (C:CT) (a0 a1:Value) (g:G) (n:Nat) (K:Cont):Zcx C a0 a1 g n K=Zf Tryz.prog C Jaw [a0,a1] g n K:=by kernel_rfl
def Qct (C:CT) (a0:Value) (g:G) (n:Nat) (K:Cont):Prop:=
Qg a0 fun v5=>
Qd v5 fun l6 o6=>
kSt g l6 (o6+0+12) (.int .i64 0) fun g1=>
Qg a0 fun v8=>
Qd v8 fun l9 o9=>
kSt g1 l9 (o9+0+13) (.int .i64 0) fun g2=>
Qg a0 fun v11=>
Qd v11 fun l12 o12=>
kSt g2 l12 (o12+0+14) (.int .u8 0) fun g3=>
Jc K (.tuple #[]) g3 n
theorem QcT (C:CT) (a0:Value) (g:G) (n:Nat) (K:Cont):Qct C a0 g n K=Zf Tryz.prog C Qaf [a0] g n K:=by kernel_rfl
def Jcw (C:CT) (a0 a1:Value) (g:G) (n:Nat) (K:Cont):Prop:=
Qg a0 fun v5=>
Qd v5 fun l6 o6=>
kLd g l6 (o6+0+11) fun v8=>
C Jt [a1] g n fun v10 g1 n10=>
(Qd (ptr l6 (o6+0+11)) fun l _=>g1 l=g l)∧Jb .int .or v8 v10 fun v11=>
Qg a0 fun v12=>
Qd v12 fun l13 o13=>
kSt g1 l13 (o13+0+11) v11 fun g2=>
C QM [a0,a1,.int .i64 8] g2 n10 fun v17 g3 n17=>
Jc K (.tuple #[]) g3 n17
theorem ZcT (C:CT) (a0 a1:Value) (g:G) (n:Nat) (K:Cont):Jcw C a0 a1 g n K=Zf Tryz.prog C Qae [a0,a1] g n K:=by kernel_rfl
def XcO (C:CT) (a0 a1 a2:Value) (g:G) (n:Nat) (K:Cont):Prop:=
Qg a0 fun v9=>
Qd v9 fun l10 o10=>
kSt g l10 (o10+0+10) a1 fun g1=>
Qg a0 fun v12=>
Qd v12 fun l13 o13=>
kSt g1 l13 (o13+0+11) (.int .u8 0) fun g2=>
C QM [a0,a1,a2] g2 n fun v18 g3 n18=>
Jc K (.tuple #[]) g3 n18
theorem Zdf (C:CT) (a0 a1 a2:Value) (g:G) (n:Nat) (K:Cont):XcO C a0 a1 a2 g n K=Zf Tryz.prog C Jaa [a0,a1,a2] g n K:=by kernel_rfl
def XI (C:CT) (K:Cont) (t:Env) (g:G) (n:Nat):Prop:=
Qg (t 0) fun v59=>
Qd v59 fun l60 o60=>
kSt g l60 (o60+2) (t 9) fun g8=>
Jc K (.int .i64 0) g8 n
def JT (C:CT) (K:Cont) (J:Qm) (t:Env) (g:G) (n:Nat):Prop:=
Qg (t 0) fun v35=>
Qd v35 fun l36 o36=>
kLd g l36 (o36+2) fun v37=>
Qan v37 fun v38=>
Jb .int .add v38 (.int .i64 1) fun v39=>
Zb1 v39 v39 [.int .i64 0,.int .u64 0,.int .u64 0,.int .u64 0,.int .u64 0,.int .u64 0,.int .u64 0,.int .u64 0,.int .u64 0] 72 g n fun v40 g5 n40=>
Qg (t 0) fun v43=>
Qd v43 fun l44 o44=>
kLd g5 l44 (o44+2) fun v45=>
JbN v40 v45 9 g5 fun v46 g6=>
Qg (t 0) fun v49=>
Qd v49 fun l50 o50=>
kLd g6 l50 (o50+2) fun v51=>
Qan v51 fun v52=>
Qd (t 5) fun l54 o54=>
Qn g6 l54 o54 8 fun c54=>
Qe [.int .i64 0,.int .u64 0,.int .u64 0,.int .u64 0,.int .u64 0,.int .u64 0,.int .u64 0,.int .u64 0,.int .u64 0] [(0,none,t 1),(1,some 8,.agg c54.toArray)] fun c55=>
Jd v40 v52 9 fun v56=>
Qd v56 fun lg7 og7=>
Zm (.agg c55.toArray) fun cg7=>
cg7.length=9∧Js g6 lg7 og7 cg7 fun g7=>
J (puts t [(34,t 0),(35,v35),(36,(ptr l36 (o36+2))),(37,v37),(38,v38),(39,v39),(40,v40),(9,v40),(41,v40),(42,t 0),(43,v43),(44,(ptr l44 (o44+2))),(45,v45),(46,v46),(47,v40),(48,t 0),(49,v49),(50,(ptr l50 (o50+2))),(51,v51),(52,v52),(53,t 1),(54,.agg c54.toArray),(55,.agg c55.toArray),(56,v56)]) g7 n40
def QaV (C:CT) (a0 a1 a2:Value) (J:Qm) (g:G) (n:Nat) (K:Cont):Prop:=
Zm a2 fun c5=>
Qp c5 .exact g n fun l5 g1 n5=>
Jb .ptr .eql a0 (.pointer none) fun v11=>
Qa v11 (
Jc K (.int .i64 1) g1 n5) (
Qg a0 fun v14=>
Qd v14 fun l15 o15=>
kLd g1 l15 (o15+0) fun v16=>
C ZaG [v16,a1] g1 n5 fun v18 g2 n18=>
Zc v18 0 fun v19=>
Zc v18 1 fun v20=>
Qp [.int .u64 0,.int .u64 0,.int .u64 0,.int .u64 0,.int .u64 0,.int .u64 0,.int .u64 0,.int .u64 0] .exact g2 n18 fun l7 g3 n7=>
Zm v19 fun cg4=>
cg4.length=8∧Js g3 l7 0 cg4 fun g4=>
Jb .int .neq v20 (.int .i64 0) fun v22=>
Qa v22 (
Jc K v20 g4 n7) (
Qg a0 fun v25=>
Qd v25 fun l26 o26=>
kLd g4 l26 (o26+2) fun v27=>
Qan v27 fun v28=>
Qg a0 fun v30=>
Qd v30 fun l31 o31=>
kLd g4 l31 (o31+1) fun v32=>
Jb .int .geq v28 v32 fun v33=>
Qa v33 (
Jc K (.int .i64 13) g4 n7) (
J (puts (Xi [a0,a1,a2]) [(5,ptr l5 0),(6,.int .i64 0),(10,a0),(11,v11),(13,a0),(14,v14),(15,(ptr l15 (o15+0))),(16,v16),(17,a1),(18,v18),(12,v18),(19,v19),(20,v20),(7,ptr l7 0),(8,v20),(21,v20),(22,v22),(24,a0),(25,v25),(26,(ptr l26 (o26+2))),(27,v27),(28,v28),(29,a0),(30,v30),(31,(ptr l31 (o31+1))),(32,v32),(33,v33)]) g4 n7)))
def Xbd (C:CT) (a0 a1 a2:Value) (g:G) (n:Nat) (K:Cont):Prop:=QaV C a0 a1 a2 (JT C K (XI C K)) g n K
theorem Jbp (C:CT) (t:Env) (g:G) (n:Nat) (K:Cont):XI C K t g n=Jaj Tryz.prog C [1,1,1,1,1,1,1] Qt K t g n:=by kernel_rfl
theorem XbG (C:CT) (K:Cont):XI C K=Jaj Tryz.prog C [1,1,1,1,1,1,1] Qt K:=funext fun t=>funext fun g=>funext fun n=>Jbp C t g n K
theorem Zbs (C:CT) (J:Qm) (t:Env) (g:G) (n:Nat) (K:Cont):JT C K J t g n=JaZ Tryz.prog C [1,1,1,1] [1,1,1] J Qt K t g n:=by kernel_rfl
theorem XbF (C:CT) (K:Cont):JT C K (XI C K)=Jaj Tryz.prog C [1,1,1,1] Qt K:=by
 rw [XbG]
 exact (funext fun t=>funext fun g=>funext fun n=>Zbs C _ t g n K).trans (JaX Tryz.prog C [1,1,1,1] [1,1,1] Qt K)
theorem ZbH (C:CT) (a0 a1 a2:Value) (J:Qm) (g:G) (n:Nat) (K:Cont):QaV C a0 a1 a2 J g n K=XbW Tryz.prog C [1,1,1,1] J Qt [a0,a1,a2] g n K:=by kernel_rfl
theorem XcK (C:CT) (a0 a1 a2:Value) (g:G) (n:Nat) (K:Cont):Xbd C a0 a1 a2 g n K=Zf Tryz.prog C Qt [a0,a1,a2] g n K:=by
 unfold Xbd
 rw [ZbH,XbF]
 exact Jbv Tryz.prog C [1,1,1,1] Qt [a0,a1,a2] g n K
def Zax (C:CT) (K:Cont) (t:Env) (g:G) (n:Nat):Prop:=
Qg (t 0) fun v26=>
Qd v26 fun l27 o27=>
kLd g l27 (o27+16) fun v28=>
Qd (t 6) fun l30 o30=>
Qn g l30 o30 12 fun c30=>
Qe [.int .i64 0,.int .i64 0,.int .i64 0,.bool false,.bool false,.int .u64 0,.int .u64 0,.int .u64 0,.int .u64 0,.int .u64 0,.int .u64 0,.int .u64 0,.int .u64 0] [(0,none,t 1),(1,some 12,.agg c30.toArray)] fun c31=>
Qe (reps 1 [.int .i64 0,.int .i64 0,.int .i64 0,.bool false,.bool false,.int .u64 0,.int .u64 0,.int .u64 0,.int .u64 0,.int .u64 0,.int .u64 0,.int .u64 0,.int .u64 0]) [(0,some 13,.agg c31.toArray)] fun c32=>
Qp c32 .exact g n fun l32 g4 n32=>
(Qd (ptr l27 (o27+16)) fun l _=>g4 l=g l)∧Qx v28 (.slice (some ⟨l32,0,none⟩) 1 1) 13 96 g4 n32 fun v33 g5 n33=>
Qg (t 0) fun v34=>
Qd v34 fun l35 o35=>
kSt g5 l35 (o35+16) v33 fun g6=>
Jc K (.tuple #[]) g6 n33
def Zaf (C:CT) (K:Cont) (t:Env) (g:G) (n:Nat):Prop:=
Qa (t 14) (
Qg (t 0) fun v19=>
Qd v19 fun l20 o20=>
Qn g l20 (o20+0+2) 8 fun c22=>
Qd (t 6) fun l23 o23=>
Zm (.agg c22.toArray) fun cg3=>
cg3.length=8∧Js g l23 (o23+4) cg3 fun g3=>
Zax C K (puts t [(18,t 0),(19,v19),(20,(ptr l20 (o20+0))),(21,(ptr l20 (o20+0+2))),(22,.agg c22.toArray),(23,(ptr l23 (o23+4)))]) g3 n) (
Zax C K t g n)
def Zcv (C:CT) (a0 a1 a2:Value) (g:G) (n:Nat) (K:Cont):Prop:=
Qg a0 fun v9=>
Qd v9 fun l10 o10=>
kLd g l10 (o10+15) fun v11=>
Qe [.int .i64 0,.int .i64 0,.bool false,.bool false,.int .u64 0,.int .u64 0,.int .u64 0,.int .u64 0,.int .u64 0,.int .u64 0,.int .u64 0,.int .u64 0] [(0,none,a2),(1,none,v11)] fun c12=>
Qp [.int .i64 0,.int .i64 0,.bool false,.bool false,.int .u64 0,.int .u64 0,.int .u64 0,.int .u64 0,.int .u64 0,.int .u64 0,.int .u64 0,.int .u64 0] .exact g n fun l6 g1 n6=>
Zm (.agg c12.toArray) fun cg2=>
cg2.length=12∧Js g1 l6 0 cg2 fun g2=>
Jb .int .eql a2 (.int .i64 8) fun v15=>
Qa v15 (
Zaf C K (puts (Xi [a0,a1,a2]) [(7,a2),(8,a0),(9,v9),(10,(ptr l10 (o10+15))),(11,v11),(12,.agg c12.toArray),(6,ptr l6 0),(13,a2),(15,v15),(14,v15)]) g2 n6) (
Jb .int .eql a2 (.int .i64 9) fun v16=>
Qa v16 (
Zaf C K (puts (Xi [a0,a1,a2]) [(7,a2),(8,a0),(9,v9),(10,(ptr l10 (o10+15))),(11,v11),(12,.agg c12.toArray),(6,ptr l6 0),(13,a2),(15,v15),(14,v15),(16,v16),(14,v16)]) g2 n6) (
Jb .int .eql a2 (.int .i64 10) fun v17=>
Zaf C K (puts (Xi [a0,a1,a2]) [(7,a2),(8,a0),(9,v9),(10,(ptr l10 (o10+15))),(11,v11),(12,.agg c12.toArray),(6,ptr l6 0),(13,a2),(15,v15),(14,v15),(16,v16),(14,v16),(17,v17),(14,v17)]) g2 n6))
theorem XcU (C:CT) (a0 a1 a2:Value) (g:G) (n:Nat) (K:Cont):Zcv C a0 a1 a2 g n K=Zf Tryz.prog C QM [a0,a1,a2] g n K:=by kernel_rfl
def XE (C:CT) (K:Cont) (t:Env) (g:G) (n:Nat):Prop:=
Qg (t 0) fun v46=>
Qd v46 fun l47 o47=>
kLd g l47 (o47+2) fun v48=>
Jb .int .add (t 5) (t 6) fun v51=>
QA v48 (some v51) none none 9 fun v52=>
ZaS v52 [.int .i64 0,.int .u64 0,.int .u64 0,.int .u64 0,.int .u64 0,.int .u64 0,.int .u64 0,.int .u64 0,.int .u64 0] g fun v_ g5=>
Qg (t 0) fun v55=>
Qd v55 fun l56 o56=>
kLd g5 l56 (o56+2) fun v57=>
Jb .int .add (t 5) (t 6) fun v60=>
QA v57 none (some v60) none 9 fun v61=>
Qg (t 0) fun v62=>
Qd v62 fun l63 o63=>
kSt g5 l63 (o63+2) v61 fun g6=>
Jc K (.int .i64 0) g6 n
def QN (C:CT) (K:Cont) (J:Qm) (t:Env) (g:G) (n:Nat):Prop:=
Qg (t 0) fun v32=>
Qd v32 fun l33 o33=>
kLd g l33 (o33+2) fun v34=>
QA v34 (some (t 5)) none none 9 fun v36=>
Qg (t 0) fun v38=>
Qd v38 fun l39 o39=>
kLd g l39 (o39+2) fun v40=>
Jb .int .add (t 5) (.int .i64 1) fun v42=>
QA v40 (some v42) none none 9 fun v43=>
JbN v36 v43 9 g fun v44 g4=>
J (puts t [(31,t 0),(32,v32),(33,(ptr l33 (o33+2))),(34,v34),(35,t 5),(36,v36),(37,t 0),(38,v38),(39,(ptr l39 (o39+2))),(40,v40),(41,t 5),(42,v42),(43,v43),(44,v44),(6,v44)]) g4 n
def QaO (C:CT) (a0 a1:Value) (J:Qm) (g:G) (n:Nat) (K:Cont):Prop:=
isCell a1=true∧Qp [a1] .exact g n fun l3 g1 n3=>
Jb .ptr .eql a0 (.pointer none) fun v8=>
Qa v8 (
Jc K (.int .i64 1) g1 n3) (
Qg a0 fun v10=>
Qd v10 fun l11 o11=>
kLd g1 l11 (o11+2) fun v12=>
C Xv [v12,(.func (.func Zy) #[] #[ptr l3 0])] g1 n3 fun v14 g2 n14=>
Jb .int .lss v14 (.int .i64 0) fun v16=>
Qa v16 (
Jc K (.int .i64 14) g2 n14) (
Qg a0 fun v18=>
Qd v18 fun l19 o19=>
kLd g2 l19 (o19+0) fun v20=>
kLd g2 l3 0 fun v21=>
Qg a0 fun v23=>
Qd v23 fun l24 o24=>
kLd g2 l24 (o24+2) fun v25=>
Jd v25 v14 9 fun v27=>
Qd v27 fun l28 o28=>
Qn g2 l28 (o28+1) 8 fun c29=>
C Xaz [v20,v21,.agg c29.toArray] g2 n14 fun v30 g3 n30=>
J (puts (Xi [a0,a1]) [(3,ptr l3 0),(4,.int .i64 0),(7,a0),(8,v8),(9,a0),(10,v10),(11,(ptr l11 (o11+2))),(12,v12),(13,(.func (.func Zy) #[] #[ptr l3 0])),(14,v14),(5,v14),(15,v14),(16,v16),(17,a0),(18,v18),(19,(ptr l19 (o19+0))),(20,v20),(21,v21),(22,a0),(23,v23),(24,(ptr l24 (o24+2))),(25,v25),(26,v14),(27,v27),(28,(ptr l28 (o28+1))),(29,.agg c29.toArray),(30,v30)]) g3 n30))
def Za4 (C:CT) (a0 a1:Value) (g:G) (n:Nat) (K:Cont):Prop:=QaO C a0 a1 (QN C K (XE C K)) g n K
theorem Jbo (C:CT) (t:Env) (g:G) (n:Nat) (K:Cont):XE C K t g n=Jaj Tryz.prog C [1,1,1,1,1,1] Xr K t g n:=by kernel_rfl
theorem Zbr (C:CT) (K:Cont):XE C K=Jaj Tryz.prog C [1,1,1,1,1,1] Xr K:=funext fun t=>funext fun g=>funext fun n=>Jbo C t g n K
theorem Jbi (C:CT) (J:Qm) (t:Env) (g:G) (n:Nat) (K:Cont):QN C K J t g n=JaZ Tryz.prog C [1,1,1,1,1] [1] J Xr K t g n:=by kernel_rfl
theorem Zbu (C:CT) (K:Cont):QN C K (XE C K)=Jaj Tryz.prog C [1,1,1,1,1] Xr K:=by
 rw [Zbr]
 exact (funext fun t=>funext fun g=>funext fun n=>Jbi C _ t g n K).trans (JaX Tryz.prog C [1,1,1,1,1] [1] Xr K)
theorem Qbu (C:CT) (a0 a1:Value) (J:Qm) (g:G) (n:Nat) (K:Cont):QaO C a0 a1 J g n K=XbW Tryz.prog C [1,1,1,1,1] J Xr [a0,a1] g n K:=by kernel_rfl
theorem JcA (C:CT) (a0 a1:Value) (g:G) (n:Nat) (K:Cont):Za4 C a0 a1 g n K=Zf Tryz.prog C Xr [a0,a1] g n K:=by
 unfold Za4
 rw [Qbu,Zbu]
 exact Jbv Tryz.prog C [1,1,1,1,1] Xr [a0,a1] g n K
def Xda (C:CT) (a0 a1:Value) (g:G) (n:Nat) (K:Cont):Prop:=
Jb .int .neq a0 (.int .i64 1) fun v7=>
Qa v7 (
Jb .int .neq a0 (.int .i64 2) fun v10=>
Qa v10 (
Jb .int .neq a0 (.int .i64 4) fun v14=>
Qa v14 (
Jb .int .neq a0 (.int .i64 8) fun v18=>
Qa v18 (
Jc K (.tuple #[.pointer none,.int .i64 1]) g n) (
Jb .int .lss a1 (.int .i64 1) fun v22=>
Qa v22 (
Jc K (.tuple #[.pointer none,.int .i64 1]) g n) (
Jb .int .gtr a1 (.int .i64 8) fun v26=>
Qa v26 (
Jc K (.tuple #[.pointer none,.int .i64 1]) g n) (
Jb .int .mul a0 a1 fun v32=>
Zb1 v32 v32 [.int .i64 0,.int .i64 0,.int .u64 0,.int .u64 0,.int .u64 0,.int .u64 0,.int .u64 0,.int .u64 0,.int .u64 0,.int .u64 0,.int .i64 0] 88 g n fun v33 g1 n33=>
Qe [.int .i64 0,.int .i64 0,.slice none 0 0,.int .i64 0] [(0,none,a0),(1,none,a1),(2,none,v33)] fun c34=>
Zm (.agg c34.toArray) fun c35=>
Qp c35 .exact g1 n33 fun l35 g2 n35=>
Jc K (.tuple #[ptr l35 0,.int .i64 0]) g2 n35)))) (
Jb .int .lss a1 (.int .i64 1) fun v22=>
Qa v22 (
Jc K (.tuple #[.pointer none,.int .i64 1]) g n) (
Jb .int .gtr a1 (.int .i64 8) fun v26=>
Qa v26 (
Jc K (.tuple #[.pointer none,.int .i64 1]) g n) (
Jb .int .mul a0 a1 fun v32=>
Zb1 v32 v32 [.int .i64 0,.int .i64 0,.int .u64 0,.int .u64 0,.int .u64 0,.int .u64 0,.int .u64 0,.int .u64 0,.int .u64 0,.int .u64 0,.int .i64 0] 88 g n fun v33 g3 n33=>
Qe [.int .i64 0,.int .i64 0,.slice none 0 0,.int .i64 0] [(0,none,a0),(1,none,a1),(2,none,v33)] fun c34=>
Zm (.agg c34.toArray) fun c35=>
Qp c35 .exact g3 n33 fun l35 g4 n35=>
Jc K (.tuple #[ptr l35 0,.int .i64 0]) g4 n35)))) (
Jb .int .lss a1 (.int .i64 1) fun v22=>
Qa v22 (
Jc K (.tuple #[.pointer none,.int .i64 1]) g n) (
Jb .int .gtr a1 (.int .i64 8) fun v26=>
Qa v26 (
Jc K (.tuple #[.pointer none,.int .i64 1]) g n) (
Jb .int .mul a0 a1 fun v32=>
Zb1 v32 v32 [.int .i64 0,.int .i64 0,.int .u64 0,.int .u64 0,.int .u64 0,.int .u64 0,.int .u64 0,.int .u64 0,.int .u64 0,.int .u64 0,.int .i64 0] 88 g n fun v33 g5 n33=>
Qe [.int .i64 0,.int .i64 0,.slice none 0 0,.int .i64 0] [(0,none,a0),(1,none,a1),(2,none,v33)] fun c34=>
Zm (.agg c34.toArray) fun c35=>
Qp c35 .exact g5 n33 fun l35 g6 n35=>
Jc K (.tuple #[ptr l35 0,.int .i64 0]) g6 n35)))) (
Jb .int .lss a1 (.int .i64 1) fun v22=>
Qa v22 (
Jc K (.tuple #[.pointer none,.int .i64 1]) g n) (
Jb .int .gtr a1 (.int .i64 8) fun v26=>
Qa v26 (
Jc K (.tuple #[.pointer none,.int .i64 1]) g n) (
Jb .int .mul a0 a1 fun v32=>
Zb1 v32 v32 [.int .i64 0,.int .i64 0,.int .u64 0,.int .u64 0,.int .u64 0,.int .u64 0,.int .u64 0,.int .u64 0,.int .u64 0,.int .u64 0,.int .i64 0] 88 g n fun v33 g7 n33=>
Qe [.int .i64 0,.int .i64 0,.slice none 0 0,.int .i64 0] [(0,none,a0),(1,none,a1),(2,none,v33)] fun c34=>
Zm (.agg c34.toArray) fun c35=>
Qp c35 .exact g7 n33 fun l35 g8 n35=>
Jc K (.tuple #[ptr l35 0,.int .i64 0]) g8 n35)))
theorem Jd9 (C:CT) (a0 a1:Value) (g:G) (n:Nat) (K:Cont):Xda C a0 a1 g n K=Zf Tryz.prog C JbL [a0,a1] g n K:=by kernel_rfl
def Zbz (C:CT) (a0:Value) (g:G) (n:Nat) (K:Cont):Prop:=
Jb .int .geq a0 (.int .i64 0) fun v4=>
Qa v4 (
Jb .int .leq a0 (.int .i64 7) fun v7=>
Jc K v7 g n) (
Jc K (.bool false) g n)
theorem Zca (C:CT) (a0:Value) (g:G) (n:Nat) (K:Cont):Zbz C a0 g n K=Zf Tryz.prog C QT [a0] g n K:=by kernel_rfl
def QaU (C:CT) (a0:Value) (g:G) (n:Nat) (K:Cont):Prop:=
Qg a0 fun v4=>
Qd v4 fun l5 o5=>
C Zbg [(ptr l5 (o5+0))] g n fun v6 g1 n6=>
Jb .int .neq v6 (.int .u32 0) fun v7=>
Jc K v7 g1 n6
theorem Qbp (C:CT) (a0:Value) (g:G) (n:Nat) (K:Cont):QaU C a0 g n K=Zf Tryz.prog C QaD [a0] g n K:=by kernel_rfl
def Xde (C:CT) (K:Cont) (t:Env) (g:G) (n:Nat):Prop:=
Qd (t 1) fun l37 o37=>
kLd g l37 (o37+4) fun v38=>
Jb .int .geq v38 (.int .i64 (-2147483648)) fun v39=>
Qa v39 (
Qd (t 1) fun l41 o41=>
kLd g l41 (o41+4) fun v42=>
Jb .int .leq v42 (.int .i64 2147483647) fun v43=>
Qa v43 (
Qd (t 1) fun l46 o46=>
kLd g l46 (o46+4) fun v47=>
Jb .int .geq v47 (.int .i64 0) fun v48=>
Qa v48 (
Jc K (.bool true) g n) (
Qd (t 1) fun l50 o50=>
kLd g l50 (o50+0) fun v51=>
C JbO [v51] g n fun v52 g5 n52=>
kUn .not v52 fun v53=>
Jc K v53 g5 n52)) (
Jc K (.bool false) g n)) (
Jc K (.bool false) g n)
def QaA (C:CT) (K:Cont) (t:Env) (g:G) (n:Nat):Prop:=
Qa (t 7) (
Jc K (.bool false) g n) (
C JH [t 3,(.string ⟨#[73]⟩)] g n fun v32 g4 n32=>
kUn .not v32 fun v33=>
Qa v33 (
Qd (t 1) fun l34 o34=>
kLd g4 l34 (o34+4) fun v35=>
Jb .int .eql v35 (.int .i64 0) fun v36=>
Jc K v36 g4 n32) (
Xde C K (puts t [(31,t 3),(32,v32),(33,v33),(30,v33)]) g4 n32))
def Jd0 (C:CT) (a0:Value) (g:G) (n:Nat) (K:Cont):Prop:=
Zm a0 fun c1=>
Qp c1 .exact g n fun l1 g1 n1=>
kLd g1 l1 (0+0) fun v5=>
C Xn [v5] g1 n1 fun v6 g2 n6=>
kLd g2 l1 (0+0) fun v9=>
C QcB [v9] g2 n6 fun v10 g3 n10=>
kUn .not v10 fun v11=>
Qa v11 (
QaA C K (puts (Xi [a0]) [(1,ptr l1 0),(2,.bool false),(4,(ptr l1 (0+0))),(5,v5),(6,v6),(3,v6),(8,(ptr l1 (0+0))),(9,v9),(10,v10),(11,v11),(7,v11)]) g3 n10) (
kLd g3 l1 (0+1) fun v13=>
C JH [v6,(.string ⟨#[65]⟩)] g3 n10 fun v15 g6 n15=>
(Qd (ptr l1 (0+1)) fun l _=>g6 l=g3 l)∧C Xak [v13,v15] g6 n15 fun v16 g7 n16=>
kUn .not v16 fun v17=>
Qa v17 (
QaA C K (puts (Xi [a0]) [(1,ptr l1 0),(2,.bool false),(4,(ptr l1 (0+0))),(5,v5),(6,v6),(3,v6),(8,(ptr l1 (0+0))),(9,v9),(10,v10),(11,v11),(7,v11),(12,(ptr l1 (0+1))),(13,v13),(14,v6),(15,v15),(16,v16),(17,v17),(7,v17)]) g7 n16) (
kLd g7 l1 (0+2) fun v19=>
C JH [v6,(.string ⟨#[66]⟩)] g7 n16 fun v21 g8 n21=>
(Qd (ptr l1 (0+2)) fun l _=>g8 l=g7 l)∧C Xak [v19,v21] g8 n21 fun v22 g9 n22=>
kUn .not v22 fun v23=>
Qa v23 (
QaA C K (puts (Xi [a0]) [(1,ptr l1 0),(2,.bool false),(4,(ptr l1 (0+0))),(5,v5),(6,v6),(3,v6),(8,(ptr l1 (0+0))),(9,v9),(10,v10),(11,v11),(7,v11),(12,(ptr l1 (0+1))),(13,v13),(14,v6),(15,v15),(16,v16),(17,v17),(7,v17),(18,(ptr l1 (0+2))),(19,v19),(20,v6),(21,v21),(22,v22),(23,v23),(7,v23)]) g9 n22) (
kLd g9 l1 (0+3) fun v25=>
C JH [v6,(.string ⟨#[67]⟩)] g9 n22 fun v27 g10 n27=>
(Qd (ptr l1 (0+3)) fun l _=>g10 l=g9 l)∧C Xak [v25,v27] g10 n27 fun v28 g11 n28=>
kUn .not v28 fun v29=>
QaA C K (puts (Xi [a0]) [(1,ptr l1 0),(2,.bool false),(4,(ptr l1 (0+0))),(5,v5),(6,v6),(3,v6),(8,(ptr l1 (0+0))),(9,v9),(10,v10),(11,v11),(7,v11),(12,(ptr l1 (0+1))),(13,v13),(14,v6),(15,v15),(16,v16),(17,v17),(7,v17),(18,(ptr l1 (0+2))),(19,v19),(20,v6),(21,v21),(22,v22),(23,v23),(7,v23),(24,(ptr l1 (0+3))),(25,v25),(26,v6),(27,v27),(28,v28),(29,v29),(7,v29)]) g11 n28)))
theorem Zdo (C:CT) (a0:Value) (g:G) (n:Nat) (K:Cont):Jd0 C a0 g n K=Zf Tryz.prog C Zbq [a0] g n K:=by kernel_rfl
def ZcN (C:CT) (a0:Value) (g:G) (n:Nat) (K:Cont):Prop:=
Qg a0 fun v8=>
Qd v8 fun l9 o9=>
kLd g l9 (o9+1) fun v10=>
Qg a0 fun v14=>
Qd v14 fun l15 o15=>
kLd g l15 (o15+0) fun v16=>
Qg a0 fun v18=>
Qd v18 fun l19 o19=>
kLd g l19 (o19+2+2) fun v21=>
Qg v16 fun v22=>
Qd v22 fun l23 o23=>
Zj (ptr l23 (o23+1)) v21 8 1 fun v24=>
Qd v24 fun l25 o25=>
kLd g l25 o25 fun v25=>
Qg a0 fun v27=>
Qd v27 fun l28 o28=>
kLd g l28 (o28+2+4) fun v30=>
C Xam [v10] g n fun v11 g1 n11=>
(Qd (ptr l15 (o15+0)) fun l _=>g1 l=g l)∧(Qd (ptr l19 (o19+2+2)) fun l _=>g1 l=g l)∧(Qd v24 fun l _=>g1 l=g l)∧(Qd (ptr l28 (o28+2+4)) fun l _=>g1 l=g l)∧Zm v11 fun c12=>
QbG c12 1 none fun v12=>
C ZcH [v25,v30] g1 n11 fun v31 g2 n31=>
C QcK [v12,v31] g2 n31 fun v32 g3 n32=>
Zc v32 0 fun v33=>
Zc v32 1 fun v34=>
Zc v32 2 fun v35=>
Jb .int .neq v35 (.int .i64 0) fun v37=>
Qa v37 (
C Zao [a0] g3 n32 fun v39 g4 n39=>
Jc K (.tuple #[.int .i64 0,.int .i64 0,.bool false]) g4 n39) (
Jc K (.tuple #[v33,v34,.bool true]) g3 n32)
theorem Xdl (C:CT) (a0:Value) (g:G) (n:Nat) (K:Cont):ZcN C a0 g n K=Zf Tryz.prog C Xal [a0] g n K:=by kernel_rfl
def Ja5 (C:CT) (K:Cont) (I_l1:Qm) (t:Env) (g:G) (n:Nat):Prop:=
Jb .int .geq (t 8) (.int .i64 0) fun v14=>
Qa v14 (
Qg (t 0) fun v21=>
Qd v21 fun l22 o22=>
(C ZB [t 0,t 8] g n fun v20 g2 n20=>
Zj (ptr l22 (o22+0)) v20 16 5 fun v23=>
Qd v23 fun l24 o24=>
Qn g2 l24 o24 5 fun c24=>
Qp [.int .i64 0,.int .i64 0,.int .i64 0,.int .u64 0,.bool false] .exact g2 n20 fun l9 g3 n9=>
(Qd v23 fun l _=>g3 l=g2 l)∧Zm (.agg c24.toArray) fun cg4=>
cg4.length=5∧Js g3 l9 0 cg4 fun g4=>
kLd g4 l9 (0+0) fun v26=>
Jb .int .eql v26 (.int .i64 9) fun v27=>
Qa v27 (
kLd g4 l9 (0+1) fun v30=>
Jb .int .eql v30 (t 1) fun v32=>
Qa v32 (
kLd g4 l9 (0+2) fun v36=>
Jb .int .eql v36 (t 2) fun v38=>
Qa v38 (
kLd g4 l9 (0+3) fun v41=>
Jc K (.tuple #[v41,.bool true]) g4 n9) (
Jb .int .sub (t 8) (.int .i64 1) fun v16=>
I_l1 (puts t [(13,t 8),(14,v14),(17,t 0),(18,t 0),(19,t 8),(21,v21),(22,(ptr l22 (o22+0))),(20,v20),(23,v23),(24,.agg c24.toArray),(9,ptr l9 0),(25,(ptr l9 (0+0))),(26,v26),(27,v27),(28,.bool true),(29,(ptr l9 (0+1))),(30,v30),(31,t 1),(32,v32),(33,v32),(34,.bool true),(35,(ptr l9 (0+2))),(36,v36),(37,t 2),(38,v38),(39,v38),(15,t 8),(16,v16),(8,v16)]) g4 n9)) (
Jb .int .sub (t 8) (.int .i64 1) fun v16=>
I_l1 (puts t [(13,t 8),(14,v14),(17,t 0),(18,t 0),(19,t 8),(21,v21),(22,(ptr l22 (o22+0))),(20,v20),(23,v23),(24,.agg c24.toArray),(9,ptr l9 0),(25,(ptr l9 (0+0))),(26,v26),(27,v27),(28,.bool true),(29,(ptr l9 (0+1))),(30,v30),(31,t 1),(32,v32),(33,v32),(34,.bool false),(35,undef),(36,undef),(37,undef),(38,undef),(39,.bool false),(15,t 8),(16,v16),(8,v16)]) g4 n9)) (
Jb .int .sub (t 8) (.int .i64 1) fun v16=>
I_l1 (puts t [(13,t 8),(14,v14),(17,t 0),(18,t 0),(19,t 8),(21,v21),(22,(ptr l22 (o22+0))),(20,v20),(23,v23),(24,.agg c24.toArray),(9,ptr l9 0),(25,(ptr l9 (0+0))),(26,v26),(27,v27),(28,.bool false),(29,undef),(30,undef),(31,undef),(32,undef),(33,.bool false),(34,.bool false),(35,undef),(36,undef),(37,undef),(38,undef),(39,.bool false),(15,t 8),(16,v16),(8,v16)]) g4 n9))∧(Qp [.int .i64 0,.int .i64 0,.int .i64 0,.int .u64 0,.bool false] .exact g n fun l9 g5 n9=>
C ZB [t 0,t 8] g5 n9 fun v20 g6 n20=>
Zj (ptr l22 (o22+0)) v20 16 5 fun v23=>
Qd v23 fun l24 o24=>
Qn g6 l24 o24 5 fun c24=>
Zm (.agg c24.toArray) fun cg7=>
cg7.length=5∧Js g6 l9 0 cg7 fun g7=>
kLd g7 l9 (0+0) fun v26=>
Jb .int .eql v26 (.int .i64 9) fun v27=>
Qa v27 (
kLd g7 l9 (0+1) fun v30=>
Jb .int .eql v30 (t 1) fun v32=>
Qa v32 (
kLd g7 l9 (0+2) fun v36=>
Jb .int .eql v36 (t 2) fun v38=>
Qa v38 (
kLd g7 l9 (0+3) fun v41=>
Jc K (.tuple #[v41,.bool true]) g7 n20) (
Jb .int .sub (t 8) (.int .i64 1) fun v16=>
I_l1 (puts t [(13,t 8),(14,v14),(17,t 0),(18,t 0),(19,t 8),(21,v21),(22,(ptr l22 (o22+0))),(9,ptr l9 0),(20,v20),(23,v23),(24,.agg c24.toArray),(25,(ptr l9 (0+0))),(26,v26),(27,v27),(28,.bool true),(29,(ptr l9 (0+1))),(30,v30),(31,t 1),(32,v32),(33,v32),(34,.bool true),(35,(ptr l9 (0+2))),(36,v36),(37,t 2),(38,v38),(39,v38),(15,t 8),(16,v16),(8,v16)]) g7 n20)) (
Jb .int .sub (t 8) (.int .i64 1) fun v16=>
I_l1 (puts t [(13,t 8),(14,v14),(17,t 0),(18,t 0),(19,t 8),(21,v21),(22,(ptr l22 (o22+0))),(9,ptr l9 0),(20,v20),(23,v23),(24,.agg c24.toArray),(25,(ptr l9 (0+0))),(26,v26),(27,v27),(28,.bool true),(29,(ptr l9 (0+1))),(30,v30),(31,t 1),(32,v32),(33,v32),(34,.bool false),(35,undef),(36,undef),(37,undef),(38,undef),(39,.bool false),(15,t 8),(16,v16),(8,v16)]) g7 n20)) (
Jb .int .sub (t 8) (.int .i64 1) fun v16=>
I_l1 (puts t [(13,t 8),(14,v14),(17,t 0),(18,t 0),(19,t 8),(21,v21),(22,(ptr l22 (o22+0))),(9,ptr l9 0),(20,v20),(23,v23),(24,.agg c24.toArray),(25,(ptr l9 (0+0))),(26,v26),(27,v27),(28,.bool false),(29,undef),(30,undef),(31,undef),(32,undef),(33,.bool false),(34,.bool false),(35,undef),(36,undef),(37,undef),(38,undef),(39,.bool false),(15,t 8),(16,v16),(8,v16)]) g7 n20))) (
Jc K (.tuple #[.int .u64 0,.bool false]) g n)
def ZbE (C:CT) (a0 a1 a2:Value) (g:G) (n:Nat) (K:Cont):Prop:=
C JC [a0] g n fun v11 g1 n11=>
Jb .int .sub v11 (.int .i64 1) fun v12=>
lfp (Ja5 C K) (puts (Xi [a0,a1,a2]) [(6,.int .u64 0),(7,.bool false),(10,a0),(11,v11),(12,v12),(8,v12)]) g1 n11
theorem Jb9 (C:CT) (a0 a1 a2:Value) (g:G) (n:Nat) (K:Cont):ZbE C a0 a1 a2 g n K=Zf Tryz.prog C ZaB [a0,a1,a2] g n K:=by kernel_rfl
def QbD (C:CT) (a0 a1 a2 a3:Value) (g:G) (n:Nat) (K:Cont):Prop:=
C Xt [a0,a1] g n fun v16 g1 n16=>
Jb .ptr .eql v16 (.pointer none) fun v18=>
Qa v18 (
Jc K (.tuple #[.int .u64 0,.bool false]) g1 n16) (
C Xu [a0,a2] g1 n16 fun v22 g2 n22=>
kUn .not v22 fun v23=>
Qa v23 (
Jc K (.tuple #[.int .u64 0,.bool false]) g2 n22) (
Qg v16 fun v27=>
Qd v27 fun l28 o28=>
kLd g2 l28 (o28+0) fun v29=>
C ZaA [v29,a2,a3] g2 n22 fun v32 g3 n32=>
Zc v32 0 fun v33=>
Zc v32 1 fun v34=>
Zc v32 2 fun v35=>
C Jae [v16,v35] g3 n32 fun v38 g4 n38=>
Jc K (.tuple #[v33,v34]) g4 n38))
theorem Xcd (C:CT) (a0 a1 a2 a3:Value) (g:G) (n:Nat) (K:Cont):QbD C a0 a1 a2 a3 g n K=Zf Tryz.prog C Zad [a0,a1,a2,a3] g n K:=by kernel_rfl
def JbA (C:CT) (a0 a1:Value) (g:G) (n:Nat) (K:Cont):Prop:=
Zm a1 fun c3=>
Qp c3 .exact g n fun l3 g1 n3=>
Jb .ptr .eql a0 (.pointer none) fun v7=>
Qa v7 (
Jc K (.int .i64 1) g1 n3) (
Qn g1 l3 0 5 fun c9=>
C QbM [.agg c9.toArray] g1 n3 fun v10 g2 n10=>
kUn .not v10 fun v11=>
Qa v11 (
Jc K (.int .i64 11) g2 n10) (
Qg a0 fun v14=>
Qd v14 fun l15 o15=>
kLd g2 l15 (o15+82) fun v16=>
Qg a0 fun v18=>
Qd v18 fun l19 o19=>
kLd g2 l19 (o19+80) fun v20=>
Jb .int .geq v16 v20 fun v21=>
Qa v21 (
Jc K (.int .i64 13) g2 n10) (
Qg a0 fun v25=>
Qd v25 fun l26 o26=>
kLd g2 l26 (o26+82) fun v27=>
Qn g2 l3 0 5 fun c29=>
Qg a0 fun v30=>
Qd v30 fun l31 o31=>
C ZB [a0,v27] g2 n10 fun v28 g3 n28=>
(Qd (ptr l3 0) fun l _=>g3 l=g2 l)∧Zj (ptr l31 (o31+0)) v28 16 5 fun v32=>
Qd v32 fun lg4 og4=>
Zm (.agg c29.toArray) fun cg4=>
cg4.length=5∧Js g3 lg4 og4 cg4 fun g4=>
Qg a0 fun v34=>
Qd v34 fun l35 o35=>
kLd g4 l35 (o35+82) fun v36=>
Jb .int .add v36 (.int .i64 1) fun v37=>
Qg a0 fun v38=>
Qd v38 fun l39 o39=>
kSt g4 l39 (o39+82) v37 fun g5=>
Jc K (.int .i64 0) g5 n28)))
theorem Zcc (C:CT) (a0 a1:Value) (g:G) (n:Nat) (K:Cont):JbA C a0 a1 g n K=Zf Tryz.prog C Zaz [a0,a1] g n K:=by kernel_rfl
def XbV (C:CT) (a0:Value) (g:G) (n:Nat) (K:Cont):Prop:=
Qg a0 fun v4=>
Qd v4 fun l5 o5=>
kLd g l5 (o5+0) fun v6=>
Qg v6 fun v7=>
Qd v7 fun l8 o8=>
kLd g l8 (o8+11) fun v9=>
C JC [v9] g n fun v10 g1 n10=>
Jb .int .eql v10 (.int .i64 0) fun v11=>
Qa v11 (
Qg a0 fun v14=>
Qd v14 fun l15 o15=>
kLd g1 l15 (o15+0) fun v16=>
Qg v16 fun v17=>
Qd v17 fun l18 o18=>
kLd g1 l18 (o18+12) fun v19=>
Jb .int .eql v19 (.int .i64 0) fun v20=>
Jc K v20 g1 n10) (
Jc K (.bool false) g1 n10)
theorem ZcA (C:CT) (a0:Value) (g:G) (n:Nat) (K:Cont):XbV C a0 g n K=Zf Tryz.prog C Zai [a0] g n K:=by kernel_rfl
def Zbo (C:CT) (a0 a1 a2:Value) (g:G) (n:Nat) (K:Cont):Prop:=
C Xt [a0,a1] g n fun v10 g1 n10=>
Jb .ptr .eql v10 (.pointer none) fun v12=>
Qa v12 (
Jc K (.bool false) g1 n10) (
C Xu [a0,a2] g1 n10 fun v16 g2 n16=>
kUn .not v16 fun v17=>
Qa v17 (
Jc K (.bool false) g2 n16) (
Qg v10 fun v21=>
Qd v21 fun l22 o22=>
kLd g2 l22 (o22+0) fun v23=>
C Z7 [v23,a2] g2 n16 fun v25 g3 n25=>
C Jae [v10,v25] g3 n25 fun v26 g4 n26=>
Qg v10 fun v28=>
Qd v28 fun l29 o29=>
kLd g4 l29 (o29+0) fun v30=>
C JS [v30,a2] g4 n26 fun v32 g5 n32=>
Jc K v32 g5 n32))
theorem Qb2 (C:CT) (a0 a1 a2:Value) (g:G) (n:Nat) (K:Cont):Zbo C a0 a1 a2 g n K=Zf Tryz.prog C Qas [a0,a1,a2] g n K:=by kernel_rfl
def ZgA (C:CT) (a0 a1 a2:Value) (g:G) (n:Nat) (K:Cont):Prop:=
C XbR [] g n fun v11 g1 n11=>
ZbU .i64 v11 a0 (.agg #[.nilFunc]) true g1 fun v13=>
Zc v13 0 fun v14=>
Zc v13 1 fun v15=>
Qp [.nilFunc] .exact g1 n11 fun l8 g2 n8=>
Zm v14 fun cg3=>
cg3.length=1∧Js g2 l8 0 cg3 fun g3=>
kUn .not v15 fun v17=>
Qa v17 (
Jc K (.tuple #[.int .u64 0,.bool false]) g3 n8) (
kLd g3 l8 (0+0) fun v19=>
Qbr C v19 [a1,a2] g3 n8 fun v22 g4 n22=>
Jc K (.tuple #[v22,.bool true]) g4 n22)
theorem Qfz (C:CT) (a0 a1 a2:Value) (g:G) (n:Nat) (K:Cont):ZgA C a0 a1 a2 g n K=Zf Tryz.prog C Xdf [a0,a1,a2] g n K:=by kernel_rfl
def Qe1 (C:CT) (a0 a1 a2:Value) (g:G) (n:Nat) (K:Cont):Prop:=
Jb .int .eql a0 (.int .i64 17) fun v10=>
Qa v10 (
Jc K (.tuple #[.bool true,.bool true]) g n) (
Jb .int .eql a0 (.int .i64 18) fun v12=>
Qa v12 (
Jb .int .eql a1 a2 fun v15=>
Jc K (.tuple #[v15,.bool true]) g n) (
Jb .int .eql a0 (.int .i64 19) fun v17=>
Qa v17 (
Jb .int .neq a1 a2 fun v20=>
Jc K (.tuple #[v20,.bool true]) g n) (
Jb .int .eql a0 (.int .i64 20) fun v22=>
Qa v22 (
Jb .int .lss a1 a2 fun v25=>
Jc K (.tuple #[v25,.bool true]) g n) (
Jc K (.tuple #[.bool false,.bool false]) g n))))
theorem JeG (C:CT) (a0 a1 a2:Value) (g:G) (n:Nat) (K:Cont):Qe1 C a0 a1 a2 g n K=Zf Tryz.prog C Jca [a0,a1,a2] g n K:=by kernel_rfl
def ZeQ (C:CT) (a0 a1:Value) (g:G) (n:Nat) (K:Cont):Prop:=
Jb .int .geq a0 (.int .i64 0) fun v6=>
Qa v6 (
Jb .int .lss a0 (.int .i64 64) fun v9=>
Qa v9 (
Jb .int .geq a1 (.int .i64 0) fun v13=>
Qa v13 (
Jb .int .lss a1 (.int .i64 8) fun v17=>
Jc K v17 g n) (
Jc K (.bool false) g n)) (
Jc K (.bool false) g n)) (
Jc K (.bool false) g n)
theorem ZeH (C:CT) (a0 a1:Value) (g:G) (n:Nat) (K:Cont):ZeQ C a0 a1 g n K=Zf Tryz.prog C Xa0 [a0,a1] g n K:=by kernel_rfl
def QbA (C:CT) (a0 a1:Value) (g:G) (n:Nat) (K:Cont):Prop:=
Jb .ptr .eql a0 (.pointer none) fun v7=>
Qa v7 (
Jc K (.bool false) g n) (
C Qs [a0,a1] g n fun v10 g1 n10=>
Qp [.int .i64 0,.int .i64 0,.int .u64 0,.int .u64 0,.int .u64 0,.int .u64 0,.int .u64 0,.int .u64 0,.int .u64 0,.int .u64 0,.int .i64 0] .exact g1 n10 fun l5 g2 n5=>
Zm v10 fun cg3=>
cg3.length=11∧Js g2 l5 0 cg3 fun g3=>
kLd g3 l5 (0+0) fun v12=>
Jb .int .eql v12 (.int .i64 2) fun v13=>
Qa v13 (
Jc K (.bool true) g3 n5) (
kLd g3 l5 (0+0) fun v16=>
Jb .int .eql v16 (.int .i64 3) fun v17=>
Jc K v17 g3 n5))
theorem Xcf (C:CT) (a0 a1:Value) (g:G) (n:Nat) (K:Cont):QbA C a0 a1 g n K=Zf Tryz.prog C JS [a0,a1] g n K:=by kernel_rfl
def Qbl (C:CT) (a0 a1:Value) (g:G) (n:Nat) (K:Cont):Prop:=
Jb .ptr .eql a0 (.pointer none) fun v7=>
Qa v7 (
Jc K (.slice none 0 0) g n) (
C Xa0 [a1,.int .i64 0] g n fun v10 g1 n10=>
kUn .not v10 fun v11=>
Qa v11 (
Jc K (.slice none 0 0) g1 n10) (
C JS [a0,a1] g1 n10 fun v16 g2 n16=>
Qa v16 (
Jc K (.slice none 0 0) g2 n16) (
C Qs [a0,a1] g2 n16 fun v20 g3 n20=>
Qp [.int .i64 0,.int .i64 0,.int .u64 0,.int .u64 0,.int .u64 0,.int .u64 0,.int .u64 0,.int .u64 0,.int .u64 0,.int .u64 0,.int .i64 0] .exact g3 n20 fun l5 g4 n5=>
Zm v20 fun cg5=>
cg5.length=11∧Js g4 l5 0 cg5 fun g5=>
kLd g5 l5 (0+0) fun v22=>
Jb .int .eql v22 (.int .i64 1) fun v23=>
Qa v23 (
Qn g5 l5 (0+2) 8 fun c27=>
C XZ [a0,a1,.int .i64 6,.int .i64 2,.agg c27.toArray] g5 n5 fun v28 g6 n28=>
Jc K v28 g6 n28) (
Qe [.int .u64 0,.int .u64 0,.int .u64 0,.int .u64 0,.int .u64 0,.int .u64 0,.int .u64 0,.int .u64 0] [] fun c31=>
C XZ [a0,a1,.int .i64 5,.int .i64 2,.agg c31.toArray] g5 n5 fun v32 g7 n32=>
Jc K v32 g7 n32))))
theorem Xb3 (C:CT) (a0 a1:Value) (g:G) (n:Nat) (K:Cont):Qbl C a0 a1 g n K=Zf Tryz.prog C Z7 [a0,a1] g n K:=by kernel_rfl
def ZbJ (C:CT) (a0 a1:Value) (g:G) (n:Nat) (K:Cont):Prop:=
Qp [.int .u64 0,.int .u64 0,.int .u64 0,.int .u64 0,.int .u64 0,.int .u64 0,.int .u64 0,.int .u64 0] .exact g n fun l4 g1 n4=>
C Z9 [a0,a1] g1 n4 fun v9 g2 n9=>
Jb .int .neq v9 (.int .i64 0) fun v11=>
Qa v11 (
Qe [.int .u64 0,.int .u64 0,.int .u64 0,.int .u64 0,.int .u64 0,.int .u64 0,.int .u64 0,.int .u64 0] [] fun c12=>
Zm (.agg c12.toArray) fun cg3=>
cg3.length=8∧Js g2 l4 0 cg3 fun g3=>
Qn g3 l4 0 8 fun r0=>
Jc K (.tuple #[.agg r0.toArray,v9]) g3 n9) (
Qg a0 fun v15=>
Qd v15 fun l16 o16=>
C ZC [(ptr l16 (o16+2)),.int .i64 1] g2 n9 fun v17 g4 n17=>
Qg a0 fun v19=>
Qd v19 fun l20 o20=>
kLd g4 l20 (o20+0) fun v21=>
Jd v21 a1 8 fun v23=>
Qd v23 fun l24 o24=>
Qn g4 l24 o24 8 fun c24=>
Zm (.agg c24.toArray) fun cg5=>
cg5.length=8∧Js g4 l4 0 cg5 fun g5=>
Qn g5 l4 0 8 fun r0=>
Jc K (.tuple #[.agg r0.toArray,.int .i64 0]) g5 n17)
theorem Xco (C:CT) (a0 a1:Value) (g:G) (n:Nat) (K:Cont):ZbJ C a0 a1 g n K=Zf Tryz.prog C ZaG [a0,a1] g n K:=by kernel_rfl
def Qcu (C:CT) (a0 a1 a2:Value) (g:G) (n:Nat) (K:Cont):Prop:=
Zm a2 fun c5=>
Qp c5 .exact g n fun l5 g1 n5=>
Qg a0 fun v8=>
Qd v8 fun l9 o9=>
kLd g1 l9 (o9+0+10) fun v11=>
Jb .int .geq v11 (.int .i64 0) fun v17=>
Qa v17 (
Jb .int .neq v11 a1 fun v21=>
Qa v21 (
C Jt [v11] g1 n5 fun v26 g2 n26=>
C JW [a0,.int .i64 1,a1,v26,.int .i64 13] g2 n26 fun v27 g3 n27=>
Jc K (.tuple #[]) g3 n27) (
Qg a0 fun v30=>
Qd v30 fun l31 o31=>
kLd g1 l31 (o31+0+11) fun v33=>
Jb .int .eql v33 (.int .u8 0) fun v34=>
Qa v34 (
C Jaa [a0,a1,.int .i64 9] g1 n5 fun v37 g4 n37=>
Jc K (.tuple #[]) g4 n37) (
C Qae [a0,a1] g1 n5 fun v14 g5 n14=>
Jc K (.tuple #[]) g5 n14))) (
Qg a0 fun v30=>
Qd v30 fun l31 o31=>
kLd g1 l31 (o31+0+11) fun v33=>
Jb .int .eql v33 (.int .u8 0) fun v34=>
Qa v34 (
C Jaa [a0,a1,.int .i64 9] g1 n5 fun v37 g6 n37=>
Jc K (.tuple #[]) g6 n37) (
C Qae [a0,a1] g1 n5 fun v14 g7 n14=>
Jc K (.tuple #[]) g7 n14))
theorem XcT (C:CT) (a0 a1 a2:Value) (g:G) (n:Nat) (K:Cont):Qcu C a0 a1 a2 g n K=Zf Tryz.prog C Zaw [a0,a1,a2] g n K:=by kernel_rfl
def Xcl (C:CT) (a0 a1 a2:Value) (g:G) (n:Nat) (K:Cont):Prop:=
Zm a2 fun c5=>
Qp c5 .exact g n fun l5 g1 n5=>
C Jad [a0] g1 n5 fun v8 g2 n8=>
C Jt [a1] g2 n8 fun v10 g3 n10=>
Jb .int .andNot v8 v10 fun v11=>
Jb .int .eql v11 (.int .u8 0) fun v13=>
Qa v13 (
C Jaa [a0,a1,.int .i64 10] g3 n10 fun v16 g4 n16=>
Jc K (.tuple #[]) g4 n16) (
C JW [a0,.int .i64 2,a1,v11,.int .i64 12] g3 n10 fun v20 g5 n20=>
Jc K (.tuple #[]) g5 n20)
theorem QcS (C:CT) (a0 a1 a2:Value) (g:G) (n:Nat) (K:Cont):Xcl C a0 a1 a2 g n K=Zf Tryz.prog C Xav [a0,a1,a2] g n K:=by kernel_rfl
def XaH (C:CT) (K:Cont) (t:Env) (g:G) (n:Nat):Prop:=
C QM [t 0,t 1,.int .i64 11] g n fun v33 g4 n33=>
Jc K (.tuple #[]) g4 n33
def ZcQ (C:CT) (a0 a1 a2:Value) (g:G) (n:Nat) (K:Cont):Prop:=
Zm a2 fun c5=>
Qp c5 .exact g n fun l5 g1 n5=>
Qg a0 fun v7=>
Qd v7 fun l8 o8=>
kLd g1 l8 (o8+0+10) fun v10=>
Jb .int .eql v10 a1 fun v12=>
Qa v12 (
Qg a0 fun v14=>
Qd v14 fun l15 o15=>
kSt g1 l15 (o15+0+10) (.int .i64 (-1)) fun g2=>
Qn g2 l5 0 12 fun c18=>
C Jaw [a0,.agg c18.toArray] g2 n5 fun v19 g3 n19=>
XaH C K (puts (Xi [a0,a1,a2]) [(5,ptr l5 0),(6,a0),(7,v7),(8,(ptr l8 (o8+0))),(9,(ptr l8 (o8+0+10))),(10,v10),(11,a1),(12,v12),(13,a0),(14,v14),(15,(ptr l15 (o15+0))),(16,(ptr l15 (o15+0+10))),(17,a0),(18,.agg c18.toArray),(19,v19)]) g3 n19) (
Qg a0 fun v21=>
Qd v21 fun l22 o22=>
kLd g1 l22 (o22+0+11) fun v24=>
C Jt [a1] g1 n5 fun v26 g5 n26=>
(Qd (ptr l22 (o22+0+11)) fun l _=>g5 l=g1 l)∧Jb .int .andNot v24 v26 fun v27=>
Qg a0 fun v28=>
Qd v28 fun l29 o29=>
kSt g5 l29 (o29+0+11) v27 fun g6=>
XaH C K (puts (Xi [a0,a1,a2]) [(5,ptr l5 0),(6,a0),(7,v7),(8,(ptr l8 (o8+0))),(9,(ptr l8 (o8+0+10))),(10,v10),(11,a1),(12,v12),(20,a0),(21,v21),(22,(ptr l22 (o22+0))),(23,(ptr l22 (o22+0+11))),(24,v24),(25,a1),(26,v26),(27,v27),(28,v28),(29,(ptr l29 (o29+0))),(30,(ptr l29 (o29+0+11)))]) g6 n26)
theorem Jc5 (C:CT) (a0 a1 a2:Value) (g:G) (n:Nat) (K:Cont):ZcQ C a0 a1 a2 g n K=Zf Tryz.prog C JaF [a0,a1,a2] g n K:=by kernel_rfl
def Qb8 (C:CT) (a0 a1 a2:Value) (g:G) (n:Nat) (K:Cont):Prop:=
Zm a2 fun c5=>
Qp c5 .exact g n fun l5 g1 n5=>
Qg a0 fun v9=>
Qd v9 fun l10 o10=>
kLd g1 l10 (o10+0+10) fun v12=>
C Jt [v12] g1 n5 fun v13 g2 n13=>
C JW [a0,.int .i64 4,a1,v13,.int .i64 13] g2 n13 fun v14 g3 n14=>
Jc K (.tuple #[]) g3 n14
theorem QcJ (C:CT) (a0 a1 a2:Value) (g:G) (n:Nat) (K:Cont):Qb8 C a0 a1 a2 g n K=Zf Tryz.prog C Jao [a0,a1,a2] g n K:=by kernel_rfl
def Xcy (C:CT) (a0 a1 a2:Value) (g:G) (n:Nat) (K:Cont):Prop:=
Zm a2 fun c5=>
Qp c5 .exact g n fun l5 g1 n5=>
C Jad [a0] g1 n5 fun v9 g2 n9=>
C JW [a0,.int .i64 5,a1,v9,.int .i64 12] g2 n9 fun v10 g3 n10=>
Jc K (.tuple #[]) g3 n10
theorem QcW (C:CT) (a0 a1 a2:Value) (g:G) (n:Nat) (K:Cont):Xcy C a0 a1 a2 g n K=Zf Tryz.prog C Qav [a0,a1,a2] g n K:=by kernel_rfl
def Jbz (C:CT) (a0 a1:Value) (g:G) (n:Nat) (K:Cont):Prop:=
Qp [.int .i64 0,.int .i64 0,.int .u64 0,.int .u64 0,.int .u64 0,.int .u64 0,.int .u64 0,.int .u64 0,.int .u64 0,.int .u64 0,.int .i64 0] .exact g n fun l4 g1 n4=>
C ZS [a0,a1] g1 n4 fun v9 g2 n9=>
Jb .int .lss v9 (.int .i64 0) fun v11=>
Qa v11 (
Qe [.int .i64 0,.int .i64 0,.int .u64 0,.int .u64 0,.int .u64 0,.int .u64 0,.int .u64 0,.int .u64 0,.int .u64 0,.int .u64 0,.int .i64 0] [] fun c12=>
Zm (.agg c12.toArray) fun cg3=>
cg3.length=11∧Js g2 l4 0 cg3 fun g3=>
Qn g3 l4 0 11 fun r0=>
Jc K (.tuple #[.agg r0.toArray,.bool false]) g3 n9) (
C Jy [a0,a1] g2 n9 fun v15 g4 n15=>
Jd v15 v9 11 fun v17=>
Qd v17 fun l18 o18=>
Qn g4 l18 o18 11 fun c18=>
Zm (.agg c18.toArray) fun cg5=>
cg5.length=11∧Js g4 l4 0 cg5 fun g5=>
Qn g5 l4 0 11 fun r0=>
Jc K (.tuple #[.agg r0.toArray,.bool true]) g5 n15)
theorem Xb9 (C:CT) (a0 a1:Value) (g:G) (n:Nat) (K:Cont):Jbz C a0 a1 g n K=Zf Tryz.prog C JaA [a0,a1] g n K:=by kernel_rfl
def Xb8 (C:CT) (a0 a1:Value) (g:G) (n:Nat) (K:Cont):Prop:=
isCell a1=true∧Qp [a1] .exact g n fun l3 g1 n3=>
Jb .ptr .eql a0 (.pointer none) fun v6=>
Qa v6 (
Jc K (.int .i64 (-1)) g1 n3) (
kLd g1 l3 0 fun v8=>
Jb .int .lss v8 (.int .i64 0) fun v9=>
Qa v9 (
Jc K (.int .i64 (-1)) g1 n3) (
kLd g1 l3 0 fun v12=>
C Jy [a0,v12] g1 n3 fun v13 g2 n13=>
C Xh [v13,(.func (.func Xax) #[] #[ptr l3 0])] g2 n13 fun v15 g3 n15=>
Jc K v15 g3 n15))
theorem QcE (C:CT) (a0 a1:Value) (g:G) (n:Nat) (K:Cont):Xb8 C a0 a1 g n K=Zf Tryz.prog C ZS [a0,a1] g n K:=by kernel_rfl
def JbS (C:CT) (a0 a1:Value) (g:G) (n:Nat) (K:Cont):Prop:=
Qg a0 fun v7=>
Qd v7 fun l8 o8=>
kLd g l8 (o8+0) fun v9=>
Qg a0 fun v13=>
Qd v13 fun l14 o14=>
kLd g l14 (o14+1) fun v15=>
C Qcb [v9,a1] g n fun v11 g1 n11=>
(Qd (ptr l14 (o14+1)) fun l _=>g1 l=g l)∧Jb .int .mul v11 v15 fun v16=>
Qg a0 fun v18=>
Qd v18 fun l19 o19=>
kLd g1 l19 (o19+2) fun v20=>
Qg a0 fun v24=>
Qd v24 fun l25 o25=>
kLd g1 l25 (o25+1) fun v26=>
Jb .int .add v16 v26 fun v27=>
Qg a0 fun v30=>
Qd v30 fun l31 o31=>
kLd g1 l31 (o31+1) fun v32=>
Jb .int .add v16 v32 fun v33=>
QA v20 (some v16) (some v27) (some v33) 11 fun v34=>
Jc K v34 g1 n11
theorem Zcu (C:CT) (a0 a1:Value) (g:G) (n:Nat) (K:Cont):JbS C a0 a1 g n K=Zf Tryz.prog C Jy [a0,a1] g n K:=by kernel_rfl
def QG (C:CT) (K:Cont) (I_l1:Qm) (t:Env) (g:G) (n:Nat):Prop:=
Jb .int .lss (t 8) (t 7) fun v9=>
Qa v9 (
Jd (t 0) (t 8) 11 fun v14=>
Qd v14 fun l15 o15=>
Qn g l15 o15 11 fun c15=>
Qbr C (t 1) [.agg c15.toArray] g n fun v16 g1 n16=>
Qa v16 (
Jc K (t 8) g1 n16) (
Jb .int .add (t 8) (.int .i64 1) fun v18=>
I_l1 (puts t [(9,v9),(10,t 8),(5,t 8),(11,t 1),(12,t 0),(13,t 8),(14,v14),(15,.agg c15.toArray),(16,v16),(18,v18),(8,v18)]) g1 n16)) (
Jc K (.int .i64 (-1)) g n)
def ZL (C:CT) (a0 a1:Value) (g:G) (n:Nat) (K:Cont):Prop:=
Qan a0 fun v7=>
lfp (QG C K) (puts (Xi [a0,a1]) [(4,.int .i64 0),(6,a0),(7,v7),(8,.int .i64 0)]) g n
theorem Qag (C:CT) (a0 a1:Value) (g:G) (n:Nat) (K:Cont):ZL C a0 a1 g n K=Zf Tryz.prog C Xh [a0,a1] g n K:=by kernel_rfl
def Xc7 (C:CT) (a0:Value) (g:G) (n:Nat) (K:Cont):Prop:=
Zm a0 fun c1=>
Qp c1 .exact g n fun l1 g1 n1=>
kLd g1 l1 (0+0) fun v4=>
Jb .int .eql v4 (.int .i64 0) fun v5=>
Jc K v5 g1 n1
theorem Qdv (C:CT) (a0:Value) (g:G) (n:Nat) (K:Cont):Xc7 C a0 g n K=Zf Tryz.prog C QaP [a0] g n K:=by kernel_rfl
def Ja8 (C:CT) (a0:Value) (g:G) (n:Nat) (K:Cont):Prop:=
Qg a0 fun v4=>
Qd v4 fun l5 o5=>
kLd g l5 (o5+3) fun v6=>
Jb .int .add v6 (.int .i64 1) fun v7=>
Qg a0 fun v8=>
Qd v8 fun l9 o9=>
kSt g l9 (o9+3) v7 fun g1=>
Qg a0 fun v11=>
Qd v11 fun l12 o12=>
kLd g1 l12 (o12+3) fun v13=>
Jc K v13 g1 n
theorem QbN (C:CT) (a0:Value) (g:G) (n:Nat) (K:Cont):Ja8 C a0 g n K=Zf Tryz.prog C X1 [a0] g n K:=by kernel_rfl
def JK (C:CT) (K:Cont) (I_l1:Qm) (t:Env) (g:G) (n:Nat):Prop:=
Jb .int .lss (t 8) (t 7) fun v9=>
Qa v9 (
Jd (t 0) (t 8) 9 fun v14=>
Qd v14 fun l15 o15=>
Qn g l15 o15 9 fun c15=>
Qbr C (t 1) [.agg c15.toArray] g n fun v16 g1 n16=>
Qa v16 (
Jc K (t 8) g1 n16) (
Jb .int .add (t 8) (.int .i64 1) fun v18=>
I_l1 (puts t [(9,v9),(10,t 8),(5,t 8),(11,t 1),(12,t 0),(13,t 8),(14,v14),(15,.agg c15.toArray),(16,v16),(18,v18),(8,v18)]) g1 n16)) (
Jc K (.int .i64 (-1)) g n)
def JP (C:CT) (a0 a1:Value) (g:G) (n:Nat) (K:Cont):Prop:=
Qan a0 fun v7=>
lfp (JK C K) (puts (Xi [a0,a1]) [(4,.int .i64 0),(6,a0),(7,v7),(8,.int .i64 0)]) g n
theorem Qak (C:CT) (a0 a1:Value) (g:G) (n:Nat) (K:Cont):JP C a0 a1 g n K=Zf Tryz.prog C Xv [a0,a1] g n K:=by kernel_rfl
def Qbh (C:CT) (a0 a1:Value) (g:G) (n:Nat) (K:Cont):Prop:=
Zm a0 fun c2=>
Qp c2 .exact g n fun l2 g1 n2=>
kLd g1 l2 (0+0) fun v5=>
Qd a1 fun l6 o6=>
kLd g1 l6 o6 fun v6=>
Jb .int .eql v5 v6 fun v7=>
Jc K v7 g1 n2
theorem Xb2 (C:CT) (a0 a1:Value) (g:G) (n:Nat) (K:Cont):Qbh C a0 a1 g n K=Zf Tryz.prog C Zy [a0,a1] g n K:=by kernel_rfl
def XbD (C:CT) (a0 a1 a2:Value) (g:G) (n:Nat) (K:Cont):Prop:=
Zm a2 fun c5=>
Qp c5 .exact g n fun l5 g1 n5=>
C Z9 [a0,a1] g1 n5 fun v10 g2 n10=>
Jb .int .neq v10 (.int .i64 0) fun v12=>
Qa v12 (
Jc K v10 g2 n10) (
Qg a0 fun v15=>
Qd v15 fun l16 o16=>
C ZC [(ptr l16 (o16+3)),.int .i64 1] g2 n10 fun v17 g3 n17=>
Qg a0 fun v19=>
Qd v19 fun l20 o20=>
kLd g3 l20 (o20+0) fun v21=>
Qn g3 l5 0 8 fun c23=>
Jd v21 a1 8 fun v24=>
Qd v24 fun lg4 og4=>
Zm (.agg c23.toArray) fun cg4=>
cg4.length=8∧Js g3 lg4 og4 cg4 fun g4=>
Jc K (.int .i64 0) g4 n17)
theorem Jcb (C:CT) (a0 a1 a2:Value) (g:G) (n:Nat) (K:Cont):XbD C a0 a1 a2 g n K=Zf Tryz.prog C Xaz [a0,a1,a2] g n K:=by kernel_rfl
def ZfP (C:CT) (a0:Value) (g:G) (n:Nat) (K:Cont):Prop:=
C QcB [a0] g n fun v5 g1 n5=>
kUn .not v5 fun v6=>
Qa v6 (
Jc K (.string ⟨#[]⟩) g1 n5) (
Qp [.int .u32 0,.int .i32 0,.int .u32 0,.string .empty,.string .empty,.string .empty,.string .empty,.string .empty,.string .empty,.string .empty,.string .empty,.string .empty,.string .empty,.string .empty,.string .empty,.string .empty,.string .empty,.string .empty,.string .empty,.string .empty,.string .empty,.string .empty,.string .empty,.string .empty,.string .empty,.string .empty] .exact g1 n5 fun l3 g2 n3=>
C Za3 [(ptr l3 (0+0)),(.func (.func JcH) #[ptr l3 0] #[])] g2 n3 fun v9 g3 n9=>
Zj (ptr l3 (0+3)) a0 23 1 fun v12=>
Qd v12 fun l13 o13=>
kLd g3 l13 o13 fun v13=>
Jc K v13 g3 n9)
theorem Xfl (C:CT) (a0:Value) (g:G) (n:Nat) (K:Cont):ZfP C a0 g n K=Zf Tryz.prog C Xn [a0] g n K:=by kernel_rfl
def ZgE (C:CT) (a0:Value) (g:G) (n:Nat) (K:Cont):Prop:=
Jb .int .geq a0 (.int .i64 0) fun v4=>
Qa v4 (
Jb .int .leq a0 (.int .i64 22) fun v7=>
Jc K v7 g n) (
Jc K (.bool false) g n)
theorem QfL (C:CT) (a0:Value) (g:G) (n:Nat) (K:Cont):ZgE C a0 g n K=Zf Tryz.prog C QcB [a0] g n K:=by kernel_rfl
def ZcM (C:CT) (a0 a1:Value) (g:G) (n:Nat) (K:Cont):Prop:=
Jb .int .eql a0 (.int .i64 0) fun v6=>
Qa v6 (
Jc K (.bool true) g n) (
Qa a1 (
Jb .int .gtr a0 (.int .i64 0) fun v11=>
Qa v11 (
Jb .int .lss a0 (.int .i64 8) fun v15=>
Jc K v15 g n) (
Jc K (.bool false) g n)) (
Jc K (.bool false) g n))
theorem Qc6 (C:CT) (a0 a1:Value) (g:G) (n:Nat) (K:Cont):ZcM C a0 a1 g n K=Zf Tryz.prog C Xak [a0,a1] g n K:=by kernel_rfl
def Qer (C:CT) (a0:Value) (g:G) (n:Nat) (K:Cont):Prop:=
Jb .int .geq a0 (.int .i64 17) fun v4=>
Qa v4 (
Jb .int .leq a0 (.int .i64 20) fun v7=>
Jc K v7 g n) (
Jc K (.bool false) g n)
theorem Zer (C:CT) (a0:Value) (g:G) (n:Nat) (K:Cont):Qer C a0 g n K=Zf Tryz.prog C JbO [a0] g n K:=by kernel_rfl
def XfH (C:CT) (a0 a1:Value) (g:G) (n:Nat) (K:Cont):Prop:=
Jb .int .lss a0 (.int .i64 1) fun v8=>
Qa v8 (
Jc K (.tuple #[.int .i64 0,.int .i64 0,.int .i64 1]) g n) (
Jb .int .gtr a0 (.int .i64 64) fun v11=>
Qa v11 (
Jc K (.tuple #[.int .i64 0,.int .i64 0,.int .i64 1]) g n) (
Jb .int .rem a1 (.int .u64 8) fun v14=>
Jb .int .neq v14 (.int .u64 0) fun v15=>
Qa v15 (
Jc K (.tuple #[.int .i64 0,.int .i64 0,.int .i64 12]) g n) (
ZO .u64 a0 fun v19=>
Jb .int .mul v19 (.int .u64 64) fun v20=>
Jb .int .geq a1 v20 fun v21=>
Qa v21 (
Jc K (.tuple #[.int .i64 0,.int .i64 0,.int .i64 12]) g n) (
Jb .int .quo a1 (.int .u64 64) fun v24=>
ZO .i64 v24 fun v25=>
Jb .int .rem a1 (.int .u64 64) fun v27=>
Jb .int .quo v27 (.int .u64 8) fun v28=>
ZO .i64 v28 fun v29=>
Jc K (.tuple #[v25,v29,.int .i64 0]) g n))))
theorem Xfa (C:CT) (a0 a1:Value) (g:G) (n:Nat) (K:Cont):XfH C a0 a1 g n K=Zf Tryz.prog C QcK [a0,a1] g n K:=by kernel_rfl
def Ja9 (C:CT) (a0:Value) (g:G) (n:Nat) (K:Cont):Prop:=
Qp [.int .i64 0,.int .i64 0,.int .i64 0,.int .i64 0,.int .i64 0,.int .i64 0,.int .i64 0] .exact g n fun l2 g1 n2=>
Jb .ptr .eql a0 (.pointer none) fun v4=>
Qa v4 (
Qe [.int .i64 0,.int .i64 0,.int .i64 0,.int .i64 0,.int .i64 0,.int .i64 0,.int .i64 0] [] fun c5=>
Zm (.agg c5.toArray) fun cg2=>
cg2.length=7∧Js g1 l2 0 cg2 fun g2=>
Qn g2 l2 0 7 fun r0=>
Jc K (.agg r0.toArray) g2 n2) (
Qg a0 fun v7=>
Qd v7 fun l8 o8=>
Qn g1 l8 (o8+0) 7 fun c9=>
Zm (.agg c9.toArray) fun cg3=>
cg3.length=7∧Js g1 l2 0 cg3 fun g3=>
Qn g3 l2 0 7 fun r0=>
Jc K (.agg r0.toArray) g3 n2)
theorem QbW (C:CT) (a0:Value) (g:G) (n:Nat) (K:Cont):Ja9 C a0 g n K=Zf Tryz.prog C Xam [a0] g n K:=by kernel_rfl
def Xfx (C:CT) (a0 a1:Value) (g:G) (n:Nat) (K:Cont):Prop:=
ZO .u64 a1 fun v7=>
Jb .int .add a0 v7 fun v8=>
Jc K v8 g n
theorem Je5 (C:CT) (a0 a1:Value) (g:G) (n:Nat) (K:Cont):Xfx C a0 a1 g n K=Zf Tryz.prog C ZcH [a0,a1] g n K:=by kernel_rfl
def Jay (C:CT) (K:Cont) (t:Env) (g:G) (n:Nat):Prop:=
Qe [.int .u64 0,.int .u64 0,.int .u64 0,.int .u64 0,.int .u64 0,.int .u64 0,.int .u64 0,.int .u64 0] [] fun c40=>
C XZ [t 0,t 1,.int .i64 4,.int .i64 1,.agg c40.toArray] g n fun v41 g6 n41=>
Jc K (.tuple #[.int .u64 0,.bool false,v41]) g6 n41
def XH (C:CT) (K:Cont) (t:Env) (g:G) (n:Nat):Prop:=
Qa (t 23) (
Qg (t 0) fun v29=>
Qd v29 fun l30 o30=>
kLd g l30 (o30+0) fun v31=>
C Xar [v31,t 1] g n fun v33 g5 n33=>
Qd (t 9) fun l35 o35=>
Zj (ptr l35 (o35+2)) (t 2) 8 1 fun v36=>
Qd v36 fun l37 o37=>
kLd g5 l37 o37 fun v37=>
Jc K (.tuple #[v37,.bool true,.slice none 0 0]) g5 n33) (
Jay C K t g n)
def ZbA (C:CT) (a0 a1 a2:Value) (g:G) (n:Nat) (K:Cont):Prop:=
Jb .ptr .eql a0 (.pointer none) fun v11=>
Qa v11 (
Jc K (.tuple #[.int .u64 0,.bool false,.slice none 0 0]) g n) (
C Xa0 [a1,a2] g n fun v15 g1 n15=>
kUn .not v15 fun v16=>
Qa v16 (
Jc K (.tuple #[.int .u64 0,.bool false,.slice none 0 0]) g1 n15) (
C Qs [a0,a1] g1 n15 fun v20 g2 n20=>
Qp [.int .i64 0,.int .i64 0,.int .u64 0,.int .u64 0,.int .u64 0,.int .u64 0,.int .u64 0,.int .u64 0,.int .u64 0,.int .u64 0,.int .i64 0] .exact g2 n20 fun l9 g3 n9=>
Zm v20 fun cg4=>
cg4.length=11∧Js g3 l9 0 cg4 fun g4=>
kLd g4 l9 (0+0) fun v22=>
Jb .int .eql v22 (.int .i64 1) fun v24=>
Qa v24 (
XH C K (puts (Xi [a0,a1,a2]) [(6,.int .u64 0),(7,.bool false),(8,.slice none 0 0),(10,a0),(11,v11),(12,.bool false),(13,a1),(14,a2),(15,v15),(16,v16),(17,v16),(18,a0),(19,a1),(20,v20),(9,ptr l9 0),(21,(ptr l9 (0+0))),(22,v22),(24,v24),(23,v24)]) g4 n9) (
Jb .int .eql v22 (.int .i64 2) fun v25=>
Qa v25 (
XH C K (puts (Xi [a0,a1,a2]) [(6,.int .u64 0),(7,.bool false),(8,.slice none 0 0),(10,a0),(11,v11),(12,.bool false),(13,a1),(14,a2),(15,v15),(16,v16),(17,v16),(18,a0),(19,a1),(20,v20),(9,ptr l9 0),(21,(ptr l9 (0+0))),(22,v22),(24,v24),(23,v24),(25,v25),(23,v25)]) g4 n9) (
Jb .int .eql v22 (.int .i64 3) fun v26=>
Qa v26 (
XH C K (puts (Xi [a0,a1,a2]) [(6,.int .u64 0),(7,.bool false),(8,.slice none 0 0),(10,a0),(11,v11),(12,.bool false),(13,a1),(14,a2),(15,v15),(16,v16),(17,v16),(18,a0),(19,a1),(20,v20),(9,ptr l9 0),(21,(ptr l9 (0+0))),(22,v22),(24,v24),(23,v24),(25,v25),(23,v25),(26,v26),(23,v26)]) g4 n9) (
Jb .int .eql v22 (.int .i64 6) fun v27=>
XH C K (puts (Xi [a0,a1,a2]) [(6,.int .u64 0),(7,.bool false),(8,.slice none 0 0),(10,a0),(11,v11),(12,.bool false),(13,a1),(14,a2),(15,v15),(16,v16),(17,v16),(18,a0),(19,a1),(20,v20),(9,ptr l9 0),(21,(ptr l9 (0+0))),(22,v22),(24,v24),(23,v24),(25,v25),(23,v25),(26,v26),(23,v26),(27,v27),(23,v27)]) g4 n9)))))
theorem Jci (C:CT) (a0 a1 a2:Value) (g:G) (n:Nat) (K:Cont):ZbA C a0 a1 a2 g n K=Zf Tryz.prog C ZaA [a0,a1,a2] g n K:=by kernel_rfl
def QaR (C:CT) (K:Cont) (t:Env) (g:G) (n:Nat):Prop:=
Qa (t 29) (
Qd (t 1) fun l33 o33=>
kLd g l33 (o33+2) fun v34=>
Jb .int .eql v34 (.int .i64 0) fun v35=>
Qa v35 (
Qd (t 1) fun l37 o37=>
kLd g l37 (o37+3) fun v38=>
Jb .int .eql v38 (.int .u64 0) fun v39=>
Jc K v39 g n) (
Jc K (.bool false) g n)) (
Jc K (.bool false) g n)
def Zea (C:CT) (a0:Value) (g:G) (n:Nat) (K:Cont):Prop:=
Zm a0 fun c1=>
Qp c1 .exact g n fun l1 g1 n1=>
kLd g1 l1 (0+1) fun v4=>
Jb .int .lss v4 (.int .i64 0) fun v5=>
Qa v5 (
Jc K (.bool false) g1 n1) (
kLd g1 l1 (0+1) fun v8=>
Jb .int .geq v8 (.int .i64 64) fun v9=>
Qa v9 (
Jc K (.bool false) g1 n1) (
kLd g1 l1 (0+2) fun v13=>
Jb .int .lss v13 (.int .i64 0) fun v14=>
Qa v14 (
Jc K (.bool false) g1 n1) (
kLd g1 l1 (0+2) fun v18=>
Jb .int .geq v18 (.int .i64 8) fun v19=>
Qa v19 (
Jc K (.bool false) g1 n1) (
kLd g1 l1 (0+4) fun v23=>
Qa v23 (
Jc K (.bool false) g1 n1) (
kLd g1 l1 (0+0) fun v26=>
Jb .int .eql v26 (.int .i64 9) fun v28=>
Qa v28 (
Jc K (.bool true) g1 n1) (
Jb .int .eql v26 (.int .i64 12) fun v30=>
Qa v30 (
QaR C K (puts (Xi [a0]) [(1,ptr l1 0),(2,.bool false),(3,(ptr l1 (0+1))),(4,v4),(5,v5),(6,.bool false),(7,(ptr l1 (0+1))),(8,v8),(9,v9),(10,v9),(11,.bool false),(12,(ptr l1 (0+2))),(13,v13),(14,v14),(15,v14),(16,.bool false),(17,(ptr l1 (0+2))),(18,v18),(19,v19),(20,v19),(21,.bool false),(22,(ptr l1 (0+4))),(23,v23),(24,v23),(25,(ptr l1 (0+0))),(26,v26),(28,v28),(27,v28),(30,v30),(29,v30)]) g1 n1) (
Jb .int .eql v26 (.int .i64 13) fun v31=>
Qa v31 (
QaR C K (puts (Xi [a0]) [(1,ptr l1 0),(2,.bool false),(3,(ptr l1 (0+1))),(4,v4),(5,v5),(6,.bool false),(7,(ptr l1 (0+1))),(8,v8),(9,v9),(10,v9),(11,.bool false),(12,(ptr l1 (0+2))),(13,v13),(14,v14),(15,v14),(16,.bool false),(17,(ptr l1 (0+2))),(18,v18),(19,v19),(20,v19),(21,.bool false),(22,(ptr l1 (0+4))),(23,v23),(24,v23),(25,(ptr l1 (0+0))),(26,v26),(28,v28),(27,v28),(30,v30),(29,v30),(31,v31),(29,v31)]) g1 n1) (
Jb .int .eql v26 (.int .i64 14) fun v32=>
QaR C K (puts (Xi [a0]) [(1,ptr l1 0),(2,.bool false),(3,(ptr l1 (0+1))),(4,v4),(5,v5),(6,.bool false),(7,(ptr l1 (0+1))),(8,v8),(9,v9),(10,v9),(11,.bool false),(12,(ptr l1 (0+2))),(13,v13),(14,v14),(15,v14),(16,.bool false),(17,(ptr l1 (0+2))),(18,v18),(19,v19),(20,v19),(21,.bool false),(22,(ptr l1 (0+4))),(23,v23),(24,v23),(25,(ptr l1 (0+0))),(26,v26),(28,v28),(27,v28),(30,v30),(29,v30),(31,v31),(29,v31),(32,v32),(29,v32)]) g1 n1))))))))
theorem Jef (C:CT) (a0:Value) (g:G) (n:Nat) (K:Cont):Zea C a0 g n K=Zf Tryz.prog C QbM [a0] g n K:=by kernel_rfl
def Jen (C:CT) (g:G) (n:Nat) (K:Cont):Prop:=
Zep (.map []) g n fun l1 g1 n1=>
Qe [.nilFunc] [(0,none,(.func (.func Xz) #[] #[]))] fun c2=>
QaM .i64 (.map (some l1)) (.int .i64 2) (.agg c2.toArray) g1 fun g2=>
Qe [.nilFunc] [(0,none,(.func (.func ZJ) #[] #[]))] fun c3=>
QaM .i64 (.map (some l1)) (.int .i64 3) (.agg c3.toArray) g2 fun g3=>
Qe [.nilFunc] [(0,none,(.func (.func XQ) #[] #[]))] fun c4=>
QaM .i64 (.map (some l1)) (.int .i64 4) (.agg c4.toArray) g3 fun g4=>
Qe [.nilFunc] [(0,none,(.func (.func Z5) #[] #[]))] fun c5=>
QaM .i64 (.map (some l1)) (.int .i64 5) (.agg c5.toArray) g4 fun g5=>
Qe [.nilFunc] [(0,none,(.func (.func Xaf) #[] #[]))] fun c6=>
QaM .i64 (.map (some l1)) (.int .i64 6) (.agg c6.toArray) g5 fun g6=>
Qe [.nilFunc] [(0,none,(.func (.func Jau) #[] #[]))] fun c7=>
QaM .i64 (.map (some l1)) (.int .i64 7) (.agg c7.toArray) g6 fun g7=>
Jc K (.map (some l1)) g7 n1
theorem Zel (C:CT) (g:G) (n:Nat) (K:Cont):Jen C g n K=Zf Tryz.prog C XbR [] g n K:=by kernel_rfl
def QX (C:CT) (K:Cont) (t:Env) (g:G) (n:Nat):Prop:=
Qg (t 0) fun v43=>
Qd v43 fun l44 o44=>
kLd g l44 (o44+0) fun v45=>
Qd (t 9) fun l48 o48=>
Qn g l48 o48 8 fun c48=>
C QL [v45,t 1,t 2,.agg c48.toArray] g n fun v49 g6 n49=>
Qe [.int .i64 0,.int .i64 0,.bool false,.bool false,.int .u64 0,.int .u64 0,.int .u64 0,.int .u64 0,.int .u64 0,.int .u64 0,.int .u64 0,.int .u64 0] [(0,none,t 3),(1,none,t 1)] fun c52=>
Qe (reps 1 [.int .i64 0,.int .i64 0,.bool false,.bool false,.int .u64 0,.int .u64 0,.int .u64 0,.int .u64 0,.int .u64 0,.int .u64 0,.int .u64 0,.int .u64 0]) [(0,some 12,.agg c52.toArray)] fun c53=>
Qp c53 .exact g6 n49 fun l53 g7 n53=>
Jc K (.slice (some ⟨l53,0,none⟩) 1 1) g7 n53
def XbM (C:CT) (a0 a1 a2 a3 a4:Value) (g:G) (n:Nat) (K:Cont):Prop:=
Zm a4 fun c9=>
Qp c9 .exact g n fun l9 g1 n9=>
C JaB [a0] g1 n9 fun v14 g2 n14=>
kUn .not v14 fun v15=>
Qa v15 (
Jc K (.slice none 0 0) g2 n14) (
Jb .int .neq a2 (.int .i64 6) fun v17=>
Qa v17 (
Qg a0 fun v20=>
Qd v20 fun l21 o21=>
kLd g2 l21 (o21+0) fun v22=>
C Jax [v22,a1] g2 n14 fun v24 g3 n24=>
Zc v24 0 fun v25=>
Zc v24 1 fun v26=>
kUn .not v25 fun v29=>
Qa v29 (
Jb .int .lss v26 (.int .i64 0) fun v32=>
Qa v32 (
Jc K (.slice none 0 0) g3 n24) (
kUn .not v25 fun v36=>
Qa v36 (
C Qs [a0,v26] g3 n24 fun v40 g4 n40=>
C Qai [a0,v40] g4 n40 fun v41 g5 n41=>
Jc K v41 g5 n41) (
QX C K (puts (Xi [a0,a1,a2,a3,a4]) [(9,ptr l9 0),(10,.slice none 0 0),(13,a0),(14,v14),(15,v15),(16,a2),(17,v17),(19,a0),(20,v20),(21,(ptr l21 (o21+0))),(22,v22),(23,a1),(24,v24),(18,v24),(25,v25),(26,v26),(11,v25),(12,v26),(28,v25),(29,v29),(30,.bool true),(31,v26),(32,v32),(33,v32),(27,v32),(35,v25),(36,v36),(34,v36)]) g3 n24))) (
kUn .not v25 fun v36=>
Qa v36 (
C Qs [a0,v26] g3 n24 fun v40 g8 n40=>
C Qai [a0,v40] g8 n40 fun v41 g9 n41=>
Jc K v41 g9 n41) (
QX C K (puts (Xi [a0,a1,a2,a3,a4]) [(9,ptr l9 0),(10,.slice none 0 0),(13,a0),(14,v14),(15,v15),(16,a2),(17,v17),(19,a0),(20,v20),(21,(ptr l21 (o21+0))),(22,v22),(23,a1),(24,v24),(18,v24),(25,v25),(26,v26),(11,v25),(12,v26),(28,v25),(29,v29),(30,.bool false),(31,undef),(32,undef),(33,.bool false),(27,.bool false),(35,v25),(36,v36),(34,v36)]) g3 n24))) (
QX C K (puts (Xi [a0,a1,a2,a3,a4]) [(9,ptr l9 0),(10,.slice none 0 0),(13,a0),(14,v14),(15,v15),(16,a2),(17,v17)]) g2 n14))
theorem ZcB (C:CT) (a0 a1 a2 a3 a4:Value) (g:G) (n:Nat) (K:Cont):XbM C a0 a1 a2 a3 a4 g n K=Zf Tryz.prog C XZ [a0,a1,a2,a3,a4] g n K:=by kernel_rfl
def Qb7 (C:CT) (a0 a1:Value) (g:G) (n:Nat) (K:Cont):Prop:=
Jb .ptr .eql a0 (.pointer none) fun v7=>
Qa v7 (
Jc K (.int .i64 1) g n) (
Jb .int .lss a1 (.int .i64 0) fun v10=>
Qa v10 (
Jc K (.int .i64 12) g n) (
Qg a0 fun v14=>
Qd v14 fun l15 o15=>
kLd g l15 (o15+0) fun v16=>
Qan v16 fun v17=>
Jb .int .geq a1 v17 fun v18=>
Qa v18 (
Jc K (.int .i64 12) g n) (
Jc K (.int .i64 0) g n)))
theorem JcC (C:CT) (a0 a1:Value) (g:G) (n:Nat) (K:Cont):Qb7 C a0 a1 g n K=Zf Tryz.prog C Z9 [a0,a1] g n K:=by kernel_rfl
def Xbz (C:CT) (K:Cont) (I_l1:Qm) (t:Env) (g:G) (n:Nat):Prop:=
Jb .int .lss (t 30) (t 29) fun v31=>
Qa v31 (
Jd (t 28) (t 30) 1 fun v32=>
Qd v32 fun l33 o33=>
kLd g l33 o33 fun v33=>
C QM [t 0,v33,t 4] g n fun v37 g5 n37=>
Jb .int .add (t 30) (.int .i64 1) fun v38=>
I_l1 (puts t [(31,v31),(32,v32),(33,v33),(11,v33),(34,t 0),(35,v33),(36,t 4),(37,v37),(38,v38),(30,v38)]) g5 n37) (
Jc K (.tuple #[]) g n)
def Jcx (C:CT) (a0 a1 a2 a3 a4:Value) (g:G) (n:Nat) (K:Cont):Prop:=
Qg a0 fun v18=>
Qd v18 fun l19 o19=>
kSt g l19 (o19+0+12) a1 fun g1=>
Qg a0 fun v21=>
Qd v21 fun l22 o22=>
kSt g1 l22 (o22+0+13) a2 fun g2=>
Qg a0 fun v24=>
Qd v24 fun l25 o25=>
kSt g2 l25 (o25+0+14) a3 fun g3=>
C Xbs [a3] g3 n fun v28 g4 n28=>
Qan v28 fun v29=>
lfp (Xbz C K) (puts (Xi [a0,a1,a2,a3,a4]) [(12,a0),(13,a0),(14,a0),(15,a1),(16,a2),(17,a3),(18,v18),(19,(ptr l19 (o19+0))),(20,(ptr l19 (o19+0+12))),(21,v21),(22,(ptr l22 (o22+0))),(23,(ptr l22 (o22+0+13))),(24,v24),(25,(ptr l25 (o25+0))),(26,(ptr l25 (o25+0+14))),(27,a3),(28,v28),(29,v29),(30,.int .i64 0)]) g4 n28
theorem XcS (C:CT) (a0 a1 a2 a3 a4:Value) (g:G) (n:Nat) (K:Cont):Jcx C a0 a1 a2 a3 a4 g n K=Zf Tryz.prog C JW [a0,a1,a2,a3,a4] g n K:=by kernel_rfl
def JbD (C:CT) (a0:Value) (g:G) (n:Nat) (K:Cont):Prop:=
Qg a0 fun v4=>
Qd v4 fun l5 o5=>
kLd g l5 (o5+0+11) fun v7=>
Qg a0 fun v9=>
Qd v9 fun l10 o10=>
kLd g l10 (o10+0+10) fun v12=>
C Jt [v12] g n fun v13 g1 n13=>
(Qd (ptr l5 (o5+0+11)) fun l _=>g1 l=g l)∧Jb .int .or v7 v13 fun v14=>
Jc K v14 g1 n13
theorem Qcd (C:CT) (a0:Value) (g:G) (n:Nat) (K:Cont):JbD C a0 g n K=Zf Tryz.prog C Jad [a0] g n K:=by kernel_rfl
def JbB (C:CT) (a0 a1:Value) (g:G) (n:Nat) (K:Cont):Prop:=
Zm a0 fun c2=>
Qp c2 .exact g n fun l2 g1 n2=>
kLd g1 l2 (0+0) fun v5=>
Jb .int .neq v5 (.int .i64 0) fun v6=>
Qa v6 (
kLd g1 l2 (0+1) fun v9=>
Qd a1 fun l10 o10=>
kLd g1 l10 o10 fun v10=>
Jb .int .eql v9 v10 fun v11=>
Jc K v11 g1 n2) (
Jc K (.bool false) g1 n2)
theorem Xca (C:CT) (a0 a1:Value) (g:G) (n:Nat) (K:Cont):JbB C a0 a1 g n K=Zf Tryz.prog C Xax [a0,a1] g n K:=by kernel_rfl
def JaM (C:CT) (K:Cont) (t:Env) (g:G) (n:Nat):Prop:=
Qa (t 8) (
Jb .int .rem (t 1) (t 0) fun v15=>
Jc K v15 g n) (
Jc K (.int .i64 0) g n)
def JeN (C:CT) (a0 a1:Value) (g:G) (n:Nat) (K:Cont):Prop:=
Jb .int .lss a1 (.int .i64 0) fun v6=>
Qa v6 (
Jc K (.int .i64 0) g n) (
Jb .int .eql a0 (.int .i64 1) fun v9=>
Qa v9 (
JaM C K (puts (Xi [a0,a1]) [(4,.int .i64 0),(5,a1),(6,v6),(7,a0),(9,v9),(8,v9)]) g n) (
Jb .int .eql a0 (.int .i64 2) fun v10=>
Qa v10 (
JaM C K (puts (Xi [a0,a1]) [(4,.int .i64 0),(5,a1),(6,v6),(7,a0),(9,v9),(8,v9),(10,v10),(8,v10)]) g n) (
Jb .int .eql a0 (.int .i64 4) fun v11=>
Qa v11 (
JaM C K (puts (Xi [a0,a1]) [(4,.int .i64 0),(5,a1),(6,v6),(7,a0),(9,v9),(8,v9),(10,v10),(8,v10),(11,v11),(8,v11)]) g n) (
Jb .int .eql a0 (.int .i64 8) fun v12=>
JaM C K (puts (Xi [a0,a1]) [(4,.int .i64 0),(5,a1),(6,v6),(7,a0),(9,v9),(8,v9),(10,v10),(8,v10),(11,v11),(8,v11),(12,v12),(8,v12)]) g n))))
theorem Qet (C:CT) (a0 a1:Value) (g:G) (n:Nat) (K:Cont):JeN C a0 a1 g n K=Zf Tryz.prog C Qcb [a0,a1] g n K:=by kernel_rfl
def Jbj (C:CT) (a0 a1:Value) (g:G) (n:Nat) (K:Cont):Prop:=
C ZS [a0,a1] g n fun v7 g1 n7=>
Jb .int .geq v7 (.int .i64 0) fun v9=>
Qa v9 (
C Jy [a0,a1] g1 n7 fun v12 g2 n12=>
C X1 [a0] g2 n12 fun v15 g3 n15=>
Jd v12 v7 11 fun v16=>
Qd v16 fun l17 o17=>
kSt g3 l17 (o17+10) v15 fun g4=>
Jc K (.tuple #[]) g4 n15) (
Jc K (.tuple #[]) g1 n7)
theorem Qb3 (C:CT) (a0 a1:Value) (g:G) (n:Nat) (K:Cont):Jbj C a0 a1 g n K=Zf Tryz.prog C Xar [a0,a1] g n K:=by kernel_rfl
def Zdi (C:CT) (a0 a1:Value) (g:G) (n:Nat) (K:Cont):Prop:=
Jb .int .add a0 a1 fun v7=>
Jc K v7 g n
theorem Jds (C:CT) (a0 a1:Value) (g:G) (n:Nat) (K:Cont):Zdi C a0 a1 g n K=Zf Tryz.prog C Xz [a0,a1] g n K:=by kernel_rfl
def Qdl (C:CT) (a0 a1:Value) (g:G) (n:Nat) (K:Cont):Prop:=
Jb .int .sub a0 a1 fun v7=>
Jc K v7 g n
theorem Zdx (C:CT) (a0 a1:Value) (g:G) (n:Nat) (K:Cont):Qdl C a0 a1 g n K=Zf Tryz.prog C ZJ [a0,a1] g n K:=by kernel_rfl
def Zdl (C:CT) (a0 a1:Value) (g:G) (n:Nat) (K:Cont):Prop:=
Jb .int .and a0 a1 fun v7=>
Jc K v7 g n
theorem Qdu (C:CT) (a0 a1:Value) (g:G) (n:Nat) (K:Cont):Zdl C a0 a1 g n K=Zf Tryz.prog C XQ [a0,a1] g n K:=by kernel_rfl
def Qdd (C:CT) (a0 a1:Value) (g:G) (n:Nat) (K:Cont):Prop:=
Jb .int .xor a0 a1 fun v7=>
Jc K v7 g n
theorem Xdu (C:CT) (a0 a1:Value) (g:G) (n:Nat) (K:Cont):Qdd C a0 a1 g n K=Zf Tryz.prog C Z5 [a0,a1] g n K:=by kernel_rfl
def Zc7 (C:CT) (a0 a1:Value) (g:G) (n:Nat) (K:Cont):Prop:=
Jb .int .rem a1 (.int .u64 64) fun v7=>
Jb .int .shl a0 v7 fun v8=>
Jc K v8 g n
theorem Zdu (C:CT) (a0 a1:Value) (g:G) (n:Nat) (K:Cont):Zc7 C a0 a1 g n K=Zf Tryz.prog C Xaf [a0,a1] g n K:=by kernel_rfl
def Zdk (C:CT) (a0 a1:Value) (g:G) (n:Nat) (K:Cont):Prop:=
Jb .int .rem a1 (.int .u64 64) fun v7=>
Jb .int .shr a0 v7 fun v8=>
Jc K v8 g n
theorem Zds (C:CT) (a0 a1:Value) (g:G) (n:Nat) (K:Cont):Zdk C a0 a1 g n K=Zf Tryz.prog C Jau [a0,a1] g n K:=by kernel_rfl
def Qbz (C:CT) (a0:Value) (g:G) (n:Nat) (K:Cont):Prop:=
Jb .ptr .eql a0 (.pointer none) fun v4=>
Qa v4 (
Jc K (.bool true) g n) (
Qg a0 fun v7=>
Qd v7 fun l8 o8=>
kLd g l8 (o8+0) fun v9=>
C J5 [v9] g n fun v10 g1 n10=>
C XC [v10,(.func (.func Zan) #[] #[])] g1 n10 fun v11 g2 n11=>
kUn .not v11 fun v12=>
Jc K v12 g2 n11)
theorem Zce (C:CT) (a0:Value) (g:G) (n:Nat) (K:Cont):Qbz C a0 g n K=Zf Tryz.prog C JaB [a0] g n K:=by kernel_rfl
def XU (C:CT) (K:Cont) (I_l1:Qm) (t:Env) (g:G) (n:Nat):Prop:=
Qa (t 27) (
Jb .int .lss (t 5) (.int .i64 0) fun v32=>
Qa v32 (
Qd (t 8) fun l39 o39=>
kLd g l39 (o39+1) fun v40=>
Qd (t 8) fun l41 o41=>
kLd g l41 (o41+10) fun v42=>
Jb .int .add (t 19) (.int .i64 1) fun v43=>
I_l1 (puts t [(31,t 5),(32,v32),(33,.bool true),(34,undef),(35,undef),(36,undef),(37,undef),(38,.bool true),(39,(ptr l39 (o39+1))),(40,v40),(41,(ptr l41 (o41+10))),(42,v42),(5,v40),(6,v42),(43,v43),(19,v43)]) g n) (
Qd (t 8) fun l34 o34=>
kLd g l34 (o34+10) fun v35=>
Jb .int .lss v35 (t 6) fun v37=>
Qa v37 (
Qd (t 8) fun l39 o39=>
kLd g l39 (o39+1) fun v40=>
Qd (t 8) fun l41 o41=>
kLd g l41 (o41+10) fun v42=>
Jb .int .add (t 19) (.int .i64 1) fun v43=>
I_l1 (puts t [(31,t 5),(32,v32),(33,.bool false),(34,(ptr l34 (o34+10))),(35,v35),(36,t 6),(37,v37),(38,v37),(39,(ptr l39 (o39+1))),(40,v40),(41,(ptr l41 (o41+10))),(42,v42),(5,v40),(6,v42),(43,v43),(19,v43)]) g n) (
Jb .int .add (t 19) (.int .i64 1) fun v43=>
I_l1 (puts t [(31,t 5),(32,v32),(33,.bool false),(34,(ptr l34 (o34+10))),(35,v35),(36,t 6),(37,v37),(38,v37),(43,v43),(19,v43)]) g n))) (
Jb .int .add (t 19) (.int .i64 1) fun v43=>
I_l1 (puts t [(43,v43),(19,v43)]) g n)
def Qa1 (C:CT) (K:Cont) (t:Env) (g:G) (n:Nat):Prop:=
Jc K (.tuple #[.bool false,t 5]) g n
def Xa5 (C:CT) (K:Cont) (I_l1:Qm) (t:Env) (g:G) (n:Nat):Prop:=
Jb .int .lss (t 19) (t 18) fun v20=>
Qa v20 (
Jd (t 17) (t 19) 11 fun v21=>
Qd v21 fun l22 o22=>
Qn g l22 o22 11 fun c22=>
Qp [.int .i64 0,.int .i64 0,.int .u64 0,.int .u64 0,.int .u64 0,.int .u64 0,.int .u64 0,.int .u64 0,.int .u64 0,.int .u64 0,.int .i64 0] .exact g n fun l8 g2 n8=>
Zm (.agg c22.toArray) fun cg3=>
cg3.length=11∧Js g2 l8 0 cg3 fun g3=>
kLd g3 l8 (0+0) fun v24=>
Jb .int .eql v24 (.int .i64 0) fun v26=>
Qa v26 (
Jc K (.tuple #[.bool true,(.int .i64 (-1))]) g3 n8) (
Jb .int .eql v24 (.int .i64 1) fun v28=>
Qa v28 (
XU C K I_l1 (puts t [(20,v20),(21,v21),(22,.agg c22.toArray),(8,ptr l8 0),(23,(ptr l8 (0+0))),(24,v24),(26,v26),(25,v26),(28,v28),(27,v28)]) g3 n8) (
Jb .int .eql v24 (.int .i64 2) fun v29=>
Qa v29 (
XU C K I_l1 (puts t [(20,v20),(21,v21),(22,.agg c22.toArray),(8,ptr l8 0),(23,(ptr l8 (0+0))),(24,v24),(26,v26),(25,v26),(28,v28),(27,v28),(29,v29),(27,v29)]) g3 n8) (
Jb .int .eql v24 (.int .i64 3) fun v30=>
XU C K I_l1 (puts t [(20,v20),(21,v21),(22,.agg c22.toArray),(8,ptr l8 0),(23,(ptr l8 (0+0))),(24,v24),(26,v26),(25,v26),(28,v28),(27,v28),(29,v29),(27,v29),(30,v30),(27,v30)]) g3 n8)))) (
Qa1 C K (puts t [(20,v20)]) g n)
def ZbF (C:CT) (a0 a1:Value) (g:G) (n:Nat) (K:Cont):Prop:=
Jb .ptr .eql a0 (.pointer none) fun v10=>
Qa v10 (
Jc K (.tuple #[.bool false,(.int .i64 (-1))]) g n) (
Jb .int .lss a1 (.int .i64 0) fun v13=>
Qa v13 (
Jc K (.tuple #[.bool false,(.int .i64 (-1))]) g n) (
C Jy [a0,a1] g n fun v17 g1 n17=>
Qan v17 fun v18=>
lfp (Xa5 C K) (puts (Xi [a0,a1]) [(4,.bool false),(5,.int .i64 0),(9,a0),(10,v10),(11,.bool false),(12,a1),(13,v13),(14,v13),(5,(.int .i64 (-1))),(6,.int .i64 0),(15,a0),(16,a1),(17,v17),(18,v18),(19,.int .i64 0)]) g1 n17))
theorem Xci (C:CT) (a0 a1:Value) (g:G) (n:Nat) (K:Cont):ZbF C a0 a1 g n K=Zf Tryz.prog C Jax [a0,a1] g n K:=by kernel_rfl
def Xah (C:CT) (K:Cont) (t:Env) (g:G) (n:Nat):Prop:=
Qg (t 0) fun v18=>
Qd v18 fun l19 o19=>
kLd g l19 (o19+0) fun v20=>
Qd (t 3) fun l21 o21=>
kLd g l21 (o21+1) fun v22=>
Qd (t 3) fun l24 o24=>
Qn g l24 (o24+2) 8 fun c25=>
C QL [v20,v22,t 6,.agg c25.toArray] g n fun v26 g6 n26=>
Qd (t 5) fun l27 o27=>
Qn g6 l27 o27 12 fun c27=>
Qe (reps 1 [.int .i64 0,.int .i64 0,.bool false,.bool false,.int .u64 0,.int .u64 0,.int .u64 0,.int .u64 0,.int .u64 0,.int .u64 0,.int .u64 0,.int .u64 0]) [(0,some 12,.agg c27.toArray)] fun c28=>
Qp c28 .exact g6 n26 fun l28 g7 n28=>
Jc K (.slice (some ⟨l28,0,none⟩) 1 1) g7 n28
def XbU (C:CT) (a0 a1:Value) (g:G) (n:Nat) (K:Cont):Prop:=
Zm a1 fun c3=>
Qp c3 .exact g n fun l3 g1 n3=>
kLd g1 l3 (0+1) fun v8=>
Qe [.int .i64 0,.int .i64 0,.bool false,.bool false,.int .u64 0,.int .u64 0,.int .u64 0,.int .u64 0,.int .u64 0,.int .u64 0,.int .u64 0,.int .u64 0] [(0,none,.int .i64 3),(1,none,v8)] fun c9=>
Qp [.int .i64 0,.int .i64 0,.bool false,.bool false,.int .u64 0,.int .u64 0,.int .u64 0,.int .u64 0,.int .u64 0,.int .u64 0,.int .u64 0,.int .u64 0] .exact g1 n3 fun l5 g2 n5=>
Zm (.agg c9.toArray) fun cg3=>
cg3.length=12∧Js g2 l5 0 cg3 fun g3=>
kLd g3 l3 (0+0) fun v11=>
Jb .int .eql v11 (.int .i64 3) fun v12=>
Qa v12 (
Qn g3 l3 (0+2) 8 fun c14=>
kSt g3 l5 (0+2) (.bool true) fun g4=>
(Qd (ptr l3 (0+2)) fun l _=>g4 l=g3 l)∧Zm (.agg c14.toArray) fun cg5=>
cg5.length=8∧Js g4 l5 (0+4) cg5 fun g5=>
Xah C K (puts (Xi [a0,a1]) [(3,ptr l3 0),(4,.slice none 0 0),(7,(ptr l3 (0+1))),(8,v8),(9,.agg c9.toArray),(5,ptr l5 0),(6,.int .i64 7),(10,(ptr l3 (0+0))),(11,v11),(12,v12),(13,(ptr l3 (0+2))),(14,.agg c14.toArray),(6,.int .i64 9),(15,(ptr l5 (0+2))),(16,(ptr l5 (0+4)))]) g5 n5) (
Xah C K (puts (Xi [a0,a1]) [(3,ptr l3 0),(4,.slice none 0 0),(7,(ptr l3 (0+1))),(8,v8),(9,.agg c9.toArray),(5,ptr l5 0),(6,.int .i64 7),(10,(ptr l3 (0+0))),(11,v11),(12,v12)]) g3 n5)
theorem Jcm (C:CT) (a0 a1:Value) (g:G) (n:Nat) (K:Cont):XbU C a0 a1 g n K=Zf Tryz.prog C Qai [a0,a1] g n K:=by kernel_rfl
def Zcm (C:CT) (K:Cont) (I_l1:Qm) (t:Env) (g:G) (n:Nat):Prop:=
Jb .int .lss (t 5) (.int .i64 8) fun v6=>
Qa v6 (
C Qbs [t 0,t 5] g n fun v10 g1 n10=>
Qa v10 (
Qe (reps 1 [.int .i64 0]) [(0,none,t 5)] fun c13=>
Qp c13 .exact g1 n10 fun l13 g2 n13=>
Qx (t 3) (.slice (some ⟨l13,0,none⟩) 1 1) 1 8 g2 n13 fun v14 g3 n14=>
Jb .int .add (t 5) (.int .i64 1) fun v15=>
I_l1 (puts t [(6,v6),(7,t 5),(4,t 5),(8,t 0),(9,t 5),(10,v10),(11,t 3),(12,t 5),(13,(.slice (some ⟨l13,0,none⟩) 1 1)),(14,v14),(3,v14),(15,v15),(5,v15)]) g3 n14) (
Jb .int .add (t 5) (.int .i64 1) fun v15=>
I_l1 (puts t [(6,v6),(7,t 5),(4,t 5),(8,t 0),(9,t 5),(10,v10),(15,v15),(5,v15)]) g1 n10)) (
Jc K (t 3) g n)
def XdG (C:CT) (a0:Value) (g:G) (n:Nat) (K:Cont):Prop:=
lfp (Zcm C K) (puts (Xi [a0]) [(2,.slice none 0 0),(3,.slice none 0 0),(5,.int .i64 0)]) g n
theorem Xd0 (C:CT) (a0:Value) (g:G) (n:Nat) (K:Cont):XdG C a0 g n K=Zf Tryz.prog C Xbs [a0] g n K:=by kernel_rfl
def JG (C:CT) (a0 a1:Value) (g:G) (n:Nat) (K:Cont):Prop:=
C Xh [a0,a1] g n fun v7 g1 n7=>
Jb .int .geq v7 (.int .i64 0) fun v8=>
Jc K v8 g1 n7
theorem Qab (C:CT) (a0 a1:Value) (g:G) (n:Nat) (K:Cont):JG C a0 a1 g n K=Zf Tryz.prog C XC [a0,a1] g n K:=by kernel_rfl
def Qbm (C:CT) (a0:Value) (g:G) (n:Nat) (K:Cont):Prop:=
Jb .ptr .eql a0 (.pointer none) fun v4=>
Qa v4 (
Jc K (.slice none 0 0) g n) (
Qg a0 fun v6=>
Qd v6 fun l7 o7=>
kLd g l7 (o7+2) fun v8=>
C Qy [v8] g n fun v9 g1 n9=>
C Zt [v9,(.func (.func QaP) #[] #[])] g1 n9 fun v10 g2 n10=>
Jc K v10 g2 n10)
theorem Qb4 (C:CT) (a0:Value) (g:G) (n:Nat) (K:Cont):Qbm C a0 g n K=Zf Tryz.prog C J5 [a0] g n K:=by kernel_rfl
def Jbb (C:CT) (a0:Value) (g:G) (n:Nat) (K:Cont):Prop:=
Zm a0 fun c1=>
Qp c1 .exact g n fun l1 g1 n1=>
kLd g1 l1 (0+0) fun v4=>
C Jbd [v4] g1 n1 fun v5 g2 n5=>
kUn .not v5 fun v6=>
Jc K v6 g2 n5
theorem ZbR (C:CT) (a0:Value) (g:G) (n:Nat) (K:Cont):Jbb C a0 g n K=Zf Tryz.prog C Zan [a0] g n K:=by kernel_rfl
def Qc2 (C:CT) (a0:Value) (g:G) (n:Nat) (K:Cont):Prop:=
Jb .int .geq a0 (.int .i64 0) fun v4=>
Qa v4 (
Jb .int .leq a0 (.int .i64 3) fun v7=>
Jc K v7 g n) (
Jc K (.bool false) g n)
theorem Jdq (C:CT) (a0:Value) (g:G) (n:Nat) (K:Cont):Qc2 C a0 g n K=Zf Tryz.prog C Jbd [a0] g n K:=by kernel_rfl
def Zo (C:CT) (K:Cont) (I_l1:Qm) (t:Env) (g:G) (n:Nat):Prop:=
Jb .int .add (t 6) (.int .i64 1) fun v21=>
I_l1 (puts t [(20,t 6),(21,v21),(6,v21)]) g n
def QF (C:CT) (K:Cont) (t:Env) (g:G) (n:Nat):Prop:=
QA (t 0) (some (t 5)) none none 11 fun v38=>
ZaS v38 [.int .i64 0,.int .i64 0,.int .u64 0,.int .u64 0,.int .u64 0,.int .u64 0,.int .u64 0,.int .u64 0,.int .u64 0,.int .u64 0,.int .i64 0] g fun v_ g6=>
QA (t 0) none (some (t 5)) none 11 fun v41=>
Jc K v41 g6 n
def ZF (C:CT) (K:Cont) (I_l1:Qm) (t:Env) (g:G) (n:Nat):Prop:=
Qan (t 0) fun v18=>
Jb .int .lss (t 6) v18 fun v19=>
Qa v19 (
Jd (t 0) (t 6) 11 fun v24=>
Qd v24 fun l25 o25=>
Qn g l25 o25 11 fun c25=>
Qp [.int .i64 0,.int .i64 0,.int .u64 0,.int .u64 0,.int .u64 0,.int .u64 0,.int .u64 0,.int .u64 0,.int .u64 0,.int .u64 0,.int .i64 0] .exact g n fun l7 g2 n7=>
Zm (.agg c25.toArray) fun cg3=>
cg3.length=11∧Js g2 l7 0 cg3 fun g3=>
Qn g3 l7 0 11 fun c27=>
Qbr C (t 1) [.agg c27.toArray] g3 n7 fun v28 g4 n28=>
kUn .not v28 fun v29=>
Qa v29 (
Qn g4 l7 0 11 fun c32=>
Jd (t 0) (t 5) 11 fun v33=>
Qd v33 fun lg5 og5=>
Zm (.agg c32.toArray) fun cg5=>
cg5.length=11∧Js g4 lg5 og5 cg5 fun g5=>
Jb .int .add (t 5) (.int .i64 1) fun v35=>
Zo C K I_l1 (puts t [(16,t 6),(17,t 0),(18,v18),(19,v19),(22,t 0),(23,t 6),(24,v24),(25,.agg c25.toArray),(7,ptr l7 0),(26,t 1),(27,.agg c27.toArray),(28,v28),(29,v29),(30,t 0),(31,t 5),(32,.agg c32.toArray),(33,v33),(34,t 5),(35,v35),(5,v35)]) g5 n28) (
Zo C K I_l1 (puts t [(16,t 6),(17,t 0),(18,v18),(19,v19),(22,t 0),(23,t 6),(24,v24),(25,.agg c25.toArray),(7,ptr l7 0),(26,t 1),(27,.agg c27.toArray),(28,v28),(29,v29)]) g4 n28)) (
QF C K (puts t [(16,t 6),(17,t 0),(18,v18),(19,v19)]) g n)
def JJ (C:CT) (a0 a1:Value) (g:G) (n:Nat) (K:Cont):Prop:=
C Xh [a0,a1] g n fun v10 g1 n10=>
Jb .int .eql v10 (.int .i64 (-1)) fun v12=>
Qa v12 (
Jc K a0 g1 n10) (
Jb .int .add v10 (.int .i64 1) fun v15=>
lfp (ZF C K) (puts (Xi [a0,a1]) [(4,.slice none 0 0),(8,a0),(9,a1),(10,v10),(5,v10),(11,v10),(12,v12),(14,v10),(15,v15),(6,v15)]) g1 n10)
theorem Xae (C:CT) (a0 a1:Value) (g:G) (n:Nat) (K:Cont):JJ C a0 a1 g n K=Zf Tryz.prog C Zt [a0,a1] g n K:=by kernel_rfl
def JV (C:CT) (a0:Value) (g:G) (n:Nat) (K:Cont):Prop:=
Jb .slice .eql a0 (.slice none 0 0) fun v4=>
Qa v4 (
Jc K (.slice none 0 0) g n) (
Qe (reps 0 [.int .i64 0,.int .i64 0,.int .u64 0,.int .u64 0,.int .u64 0,.int .u64 0,.int .u64 0,.int .u64 0,.int .u64 0,.int .u64 0,.int .i64 0]) [] fun c5=>
Qp c5 .exact g n fun l5 g1 n5=>
Qx (.slice (some ⟨l5,0,none⟩) 0 0) a0 11 88 g1 n5 fun v7 g2 n7=>
Jc K v7 g2 n7)
theorem Qar (C:CT) (a0:Value) (g:G) (n:Nat) (K:Cont):JV C a0 g n K=Zf Tryz.prog C Qy [a0] g n K:=by kernel_rfl
end Go.Proofs.YtkdfaijmjmnhjaaGreat.Gen
