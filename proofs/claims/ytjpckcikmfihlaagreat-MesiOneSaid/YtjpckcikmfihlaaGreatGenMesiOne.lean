import Derived.Test.YtjpckcikmfihlaaGreatProg
import Derived.KernelRfl
import Derived.Test.YtjpckcikmfihlaaGreatAbsC
/- What the machine comes to on each function, printed by program; each equation is checked by the kernel. -/
set_option linter.all false
set_option linter.deprecated false
namespace Go.Proofs.YtjpckcikmfihlaaGreat.Gen
open Go Go.Proofs.YtjpckcikmfihlaaGreat.Abs
def QS:FuncId:=4
def X8:FuncId:=11
def Qu:FuncId:=12
def QaW:FuncId:=13
def QG:FuncId:=16
def XM:FuncId:=18
def Qai:FuncId:=20
def JN:FuncId:=21
def JM:FuncId:=22
def Jac:FuncId:=24
def Q9:FuncId:=25
def Xag:FuncId:=30
def X3:FuncId:=32
def Z5:FuncId:=33
def ZD:FuncId:=34
def ZQ:FuncId:=35
def Qz:FuncId:=36
def QJ:FuncId:=37
def Qba:FuncId:=38
def JaL:FuncId:=39
def JK:FuncId:=40
def Qw:FuncId:=41
def ZbU:FuncId:=42
def ZN:FuncId:=43
def Xk:FuncId:=44
def Qj:FuncId:=45
def Jad:FuncId:=46
def ZJ:FuncId:=47
def Zaf:FuncId:=48
def Z9:FuncId:=49
def Zn:FuncId:=50
def Z8:FuncId:=52
def J8:FuncId:=53
def JaD:FuncId:=54
def QN:FuncId:=55
def X9:FuncId:=56
def Qam:FuncId:=84
def Q8:FuncId:=86
def XQ:FuncId:=87
def Qaf:FuncId:=88
def Zbh:FuncId:=89
def Qr:FuncId:=90
def Qk:FuncId:=91
def Xae:FuncId:=92
def Xav:FuncId:=93
def Qe:FuncId:=94
def Ja7:FuncId:=95
def Zu:FuncId:=96
def Jaz:FuncId:=97
def Zm:FuncId:=98
def X7:FuncId:=99
def JJ:FuncId:=100
def ZaF:FuncId:=101
def JaW:FuncId:=102
def Xn:FuncId:=103
def Qao:FuncId:=104
def ZO:FuncId:=106
def ZG:FuncId:=107
def XD:FuncId:=108
def Zq:FuncId:=109
def QT:FuncId:=110
def ZK:FuncId:=111
def ZT:FuncId:=131
def JB:FuncId:=133
def Qac:FuncId:=134
def XaK:FuncId:=135
def JaB:FuncId:=136
def Zam:FuncId:=137
def Jbv:FuncId:=138
def Jbw:FuncId:=139
def Xa6:FuncId:=140
def Xbr:FuncId:=141
def Xaf:FuncId:=142
def Zak:FuncId:=143
def XaH:FuncId:=144
def JaR:FuncId:=145
def Qq:FuncId:=146
def Qab:FuncId:=147
def JW:FuncId:=148
def ZW:FuncId:=149
def JO:FuncId:=150
def Jbb:FuncId:=151
def JaT:FuncId:=152
def Jae:FuncId:=153
def QF:FuncId:=154
def ZL:FuncId:=155
def Qt:FuncId:=156
def Qad:FuncId:=157
def XC:FuncId:=158
def Zr:FuncId:=159
def Js:FuncId:=160
def JcB:FuncId:=161
def Xp:FuncId:=163
def Xs:FuncId:=164
def Qap:FuncId:=165
def Xah:FuncId:=166
def Zv:FuncId:=167
def Q0:FuncId:=168
def JaG:FuncId:=169
def JP:FuncId:=197
def Zg:FuncId:=198
def Zac:FuncId:=200
def Xab:FuncId:=201
def Jaj:FuncId:=202
def X5:FuncId:=203
def Jaa:FuncId:=204
def Xad:FuncId:=205
def Xbv:FuncId:=206
def JI:FuncId:=213
def QU:FuncId:=214
def XaT:FuncId:=218
def Zs (C:CT) (K:Cont) (I_l1:Zi) (t:Env) (g:G) (n:Nat):Prop:=
Xb .int .add (t 7) (.int .i64 1) fun v45=>
I_l1 (puts t [(44,t 7),(45,v45),(7,v45)]) g n
def Zp (C:CT) (K:Cont) (I_l1:Zi) (I_l3:Zi) (I_l4:Zi) (I_l5:Zi) (t:Env) (g:G) (n:Nat):Prop:=
Xb .int .add (t 14) (.int .i64 1) fun v75=>
I_l5 (puts t [(74,t 14),(75,v75),(14,v75)]) g n
def JD (C:CT) (K:Cont) (I_l1:Zi) (I_l3:Zi) (I_l4:Zi) (I_l5:Zi) (t:Env) (g:G) (n:Nat):Prop:=
Qa (t 99) (
Xb .int .gtr (t 10) (.int .i64 0) fun v103=>
Qa v103 (
Zc (t 13) (t 14) 11 fun v107=>
Jd v107 fun l108 o108=>
Xl g l108 (o108+2) 8 fun c109=>
Jd (t 11) fun l110 o110=>
Xl g l110 o110 8 fun c110=>
Xb (.agg [.i,.i,.i,.i,.i,.i,.i,.i]) .neq (.agg c109.toArray) (.agg c110.toArray) fun v111=>
Qa v111 (
Xc K (.bool false) g n) (
Xb .int .add (t 10) (.int .i64 1) fun v114=>
Zc (t 13) (t 14) 11 fun v117=>
Jd v117 fun l118 o118=>
Xl g l118 (o118+2) 8 fun c119=>
Jd (t 11) fun lg11 og11=>
Jl (.agg c119.toArray) fun cg11=>
cg11.length=8∧Qs g lg11 og11 cg11 fun g11=>
Zp C K I_l1 I_l3 I_l4 I_l5 (puts t [(102,t 10),(103,v103),(104,.bool true),(105,t 13),(106,t 14),(107,v107),(108,(ptr l108 (o108+2))),(109,.agg c109.toArray),(110,.agg c110.toArray),(111,v111),(112,v111),(113,t 10),(114,v114),(10,v114),(115,t 13),(116,t 14),(117,v117),(118,(ptr l118 (o118+2))),(119,.agg c119.toArray)]) g11 n)) (
Xb .int .add (t 10) (.int .i64 1) fun v114=>
Zc (t 13) (t 14) 11 fun v117=>
Jd v117 fun l118 o118=>
Xl g l118 (o118+2) 8 fun c119=>
Jd (t 11) fun lg12 og12=>
Jl (.agg c119.toArray) fun cg12=>
cg12.length=8∧Qs g lg12 og12 cg12 fun g12=>
Zp C K I_l1 I_l3 I_l4 I_l5 (puts t [(102,t 10),(103,v103),(104,.bool false),(105,undef),(106,undef),(107,undef),(108,undef),(109,undef),(110,undef),(111,undef),(112,.bool false),(113,t 10),(114,v114),(10,v114),(115,t 13),(116,t 14),(117,v117),(118,(ptr l118 (o118+2))),(119,.agg c119.toArray)]) g12 n)) (
Zp C K I_l1 I_l3 I_l4 I_l5 t g n)
def ZE (C:CT) (K:Cont) (I_l1:Zi) (I_l3:Zi) (I_l4:Zi) (I_l5:Zi) (t:Env) (g:G) (n:Nat):Prop:=
Qa (t 88) (
Xb .int .add (t 9) (.int .i64 1) fun v92=>
C JM [t 5,t 8] g n fun v95 g10 n95=>
Jl v95 fun c96=>
XaP c96 10 none fun v96=>
Xb .int .neq v96 (t 12) fun v98=>
Qa v98 (
Xc K (.bool false) g10 n95) (
Zp C K I_l1 I_l3 I_l4 I_l5 (puts t [(91,t 9),(92,v92),(9,v92),(93,t 5),(94,t 8),(95,v95),(96,v96),(97,t 12),(98,v98)]) g10 n95)) (
Xb .int .eql (t 87) (.int .i64 1) fun v100=>
Qa v100 (
JD C K I_l1 I_l3 I_l4 I_l5 (puts t [(100,v100),(99,v100)]) g n) (
Xb .int .eql (t 87) (.int .i64 6) fun v101=>
JD C K I_l1 I_l3 I_l4 I_l5 (puts t [(100,v100),(99,v100),(101,v101),(99,v101)]) g n))
def JS (C:CT) (K:Cont) (I_l1:Zi) (I_l3:Zi) (I_l4:Zi) (t:Env) (g:G) (n:Nat):Prop:=
Xb .int .add (t 12) (.int .i64 1) fun v66=>
I_l4 (puts t [(65,t 12),(66,v66),(12,v66)]) g n
def XR (C:CT) (K:Cont) (I_l1:Zi) (I_l3:Zi) (I_l4:Zi) (I_l5:Zi) (t:Env) (g:G) (n:Nat):Prop:=
JaF (t 13) fun v72=>
Xb .int .lss (t 14) v72 fun v73=>
Qa v73 (
Zc (t 13) (t 14) 11 fun v78=>
Jd v78 fun l79 o79=>
kLd g l79 (o79+1) fun v80=>
Xb .int .neq v80 (t 8) fun v82=>
Qa v82 (
Zp C K I_l1 I_l3 I_l4 I_l5 (puts t [(70,t 14),(71,t 13),(72,v72),(73,v73),(76,t 13),(77,t 14),(78,v78),(79,(ptr l79 (o79+1))),(80,v80),(81,t 8),(82,v82)]) g n) (
Zc (t 13) (t 14) 11 fun v85=>
Jd v85 fun l86 o86=>
kLd g l86 (o86+0) fun v87=>
Xb .int .eql v87 (.int .i64 2) fun v89=>
Qa v89 (
ZE C K I_l1 I_l3 I_l4 I_l5 (puts t [(70,t 14),(71,t 13),(72,v72),(73,v73),(76,t 13),(77,t 14),(78,v78),(79,(ptr l79 (o79+1))),(80,v80),(81,t 8),(82,v82),(83,t 13),(84,t 14),(85,v85),(86,(ptr l86 (o86+0))),(87,v87),(89,v89),(88,v89)]) g n) (
Xb .int .eql v87 (.int .i64 3) fun v90=>
ZE C K I_l1 I_l3 I_l4 I_l5 (puts t [(70,t 14),(71,t 13),(72,v72),(73,v73),(76,t 13),(77,t 14),(78,v78),(79,(ptr l79 (o79+1))),(80,v80),(81,t 8),(82,v82),(83,t 13),(84,t 14),(85,v85),(86,(ptr l86 (o86+0))),(87,v87),(89,v89),(88,v89),(90,v90),(88,v90)]) g n))) (
JS C K I_l1 I_l3 I_l4 (puts t [(70,t 14),(71,t 13),(72,v72),(73,v73)]) g n)
def ZB (C:CT) (K:Cont) (I_l1:Zi) (I_l3:Zi) (t:Env) (g:G) (n:Nat):Prop:=
Xb .int .add (t 8) (.int .i64 1) fun v60=>
I_l3 (puts t [(59,t 8),(60,v60),(8,v60)]) g n
def ZP (C:CT) (K:Cont) (I_l1:Zi) (I_l3:Zi) (t:Env) (g:G) (n:Nat):Prop:=
Xb .int .gtr (t 9) (.int .i64 1) fun v121=>
Qa v121 (
Xc K (.bool false) g n) (
Xb .int .eql (t 9) (.int .i64 1) fun v124=>
Qa v124 (
Xb .int .gtr (t 10) (.int .i64 0) fun v127=>
Qa v127 (
Xc K (.bool false) g n) (
ZB C K I_l1 I_l3 (puts t [(120,t 9),(121,v121),(122,.bool false),(123,t 9),(124,v124),(125,.bool true),(126,t 10),(127,v127),(128,v127),(129,v127)]) g n)) (
ZB C K I_l1 I_l3 (puts t [(120,t 9),(121,v121),(122,.bool false),(123,t 9),(124,v124),(125,.bool false),(126,undef),(127,undef),(128,.bool false),(129,.bool false)]) g n))
def XU (C:CT) (K:Cont) (I_l1:Zi) (I_l3:Zi) (I_l4:Zi) (t:Env) (g:G) (n:Nat):Prop:=
Jd (t 2) fun l62 o62=>
kLd g l62 (o62+0) fun v63=>
Xb .int .lss (t 12) v63 fun v64=>
Qa v64 (
C JN [t 5,t 12] g n fun v69 g9 n69=>
lfp (XR C K I_l1 I_l3 I_l4) (puts t [(61,t 12),(62,(ptr l62 (o62+0))),(63,v63),(64,v64),(67,t 5),(68,t 12),(69,v69),(13,v69),(14,.int .i64 0)]) g9 n69) (
ZP C K I_l1 I_l3 (puts t [(61,t 12),(62,(ptr l62 (o62+0))),(63,v63),(64,v64)]) g n)
def XV (C:CT) (K:Cont) (I_l1:Zi) (I_l3:Zi) (t:Env) (g:G) (n:Nat):Prop:=
Jd (t 2) fun l56 o56=>
kLd g l56 (o56+1) fun v57=>
Xb .int .lss (t 8) v57 fun v58=>
Qa v58 (
Qv [.int .u64 0,.int .u64 0,.int .u64 0,.int .u64 0,.int .u64 0,.int .u64 0,.int .u64 0,.int .u64 0] .exact g n fun l11 g8 n11=>
lfp (XU C K I_l1 I_l3) (puts t [(55,t 8),(56,(ptr l56 (o56+1))),(57,v57),(58,v58),(9,.int .i64 0),(10,.int .i64 0),(11,ptr l11 0),(12,.int .i64 0)]) g8 n11) (
Zs C K I_l1 (puts t [(55,t 8),(56,(ptr l56 (o56+1))),(57,v57),(58,v58)]) g n)
def Zaj (C:CT) (K:Cont) (I_l1:Zi) (t:Env) (g:G) (n:Nat):Prop:=
JaF (t 1) fun v42=>
Xb .int .lss (t 7) v42 fun v43=>
Qa v43 (
Zc (t 1) (t 7) 5 fun v49=>
Jd v49 fun l50 o50=>
Xl g l50 o50 5 fun c50=>
C Qai [t 5,.agg c50.toArray] g n fun v51 g7 n51=>
Xb .int .rem (t 7) (.int .i64 3) fun v53=>
Xb .int .neq v53 (.int .i64 0) fun v54=>
Qa v54 (
Zs C K I_l1 (puts t [(40,t 7),(41,t 1),(42,v42),(43,v43),(46,t 5),(47,t 1),(48,t 7),(49,v49),(50,.agg c50.toArray),(51,v51),(52,t 7),(53,v53),(54,v54)]) g7 n51) (
lfp (XV C K I_l1) (puts t [(40,t 7),(41,t 1),(42,v42),(43,v43),(46,t 5),(47,t 1),(48,t 7),(49,v49),(50,.agg c50.toArray),(51,v51),(52,t 7),(53,v53),(54,v54),(8,.int .i64 0)]) g7 n51)) (
C Qu [] g n fun v130 g13 n130=>
Xc K v130 g13 n130)
def Xas (C:CT) (a0 a1:Value) (g:G) (n:Nat) (K:Cont):Prop:=
Jl a0 fun c2=>
Qv c2 .exact g n fun l2 g1 n2=>
JaF a1 fun v16=>
Xb .int .gtr v16 (.int .i64 400) fun v17=>
Qa v17 (
C Qu [] g1 n2 fun v28 g2 n28=>
Xc K v28 g2 n28) (
Xl g1 l2 0 7 fun c19=>
C X8 [.agg c19.toArray] g1 n2 fun v20 g3 n20=>
kUn .not v20 fun v21=>
Qa v21 (
C Qu [] g3 n20 fun v28 g4 n28=>
Xc K v28 g4 n28) (
kLd g3 l2 (0+1) fun v25=>
Xb .int .gtr v25 (.int .i64 16) fun v26=>
Qa v26 (
C Qu [] g3 n20 fun v28 g5 n28=>
Xc K v28 g5 n28) (
Xl g3 l2 0 7 fun c30=>
C QaW [.agg c30.toArray,.slice none 0 0] g3 n20 fun v31 g6 n31=>
Zd v31 0 fun v32=>
Zd v31 1 fun v33=>
Xb .int .neq v33 (.int .i64 0) fun v35=>
Qa v35 (
Xc K (.bool false) g6 n31) (
Xb .ptr .eql v32 (.pointer none) fun v38=>
Qa v38 (
Xc K (.bool false) g6 n31) (
lfp (Zaj C K) (puts (Jq [a0,a1]) [(2,ptr l2 0),(4,.bool false),(15,a1),(16,v16),(17,v17),(18,.bool false),(19,.agg c19.toArray),(20,v20),(21,v21),(22,v21),(23,.bool false),(24,(ptr l2 (0+1))),(25,v25),(26,v26),(27,v26),(30,.agg c30.toArray),(31,v31),(29,v31),(32,v32),(33,v33),(5,v32),(6,v33),(34,v33),(35,v35),(36,.bool false),(37,v32),(38,v38),(39,v38),(7,.int .i64 0)]) g6 n31)))))
theorem ZaW (C:CT) (a0 a1:Value) (g:G) (n:Nat) (K:Cont):Xas C a0 a1 g n K=Xg Tryz.prog C QS [a0,a1] g n K:=by kernel_rfl
def XaO (C:CT) (a0:Value) (g:G) (n:Nat) (K:Cont):Prop:=
Jl a0 fun c1=>
Qv c1 .exact g n fun l1 g1 n1=>
kLd g1 l1 (0+0) fun v4=>
Xb .int .geq v4 (.int .i64 1) fun v5=>
Qa v5 (
kLd g1 l1 (0+0) fun v8=>
Xb .int .leq v8 (.int .i64 8) fun v9=>
Qa v9 (
kLd g1 l1 (0+1) fun v13=>
Xb .int .geq v13 (.int .i64 2) fun v14=>
Qa v14 (
kLd g1 l1 (0+1) fun v18=>
Xb .int .leq v18 (.int .i64 64) fun v19=>
Qa v19 (
kLd g1 l1 (0+2) fun v23=>
Xb .int .geq v23 (.int .i64 1) fun v24=>
Qa v24 (
kLd g1 l1 (0+2) fun v28=>
kLd g1 l1 (0+1) fun v30=>
Xb .int .lss v28 v30 fun v31=>
Qa v31 (
kLd g1 l1 (0+3) fun v35=>
Xb .int .eql v35 (.int .i64 1) fun v36=>
Qa v36 (
kLd g1 l1 (0+4) fun v55=>
Xb .int .geq v55 (.int .i64 1) fun v56=>
Qa v56 (
kLd g1 l1 (0+4) fun v60=>
Xb .int .leq v60 (.int .i64 8) fun v61=>
Qa v61 (
kLd g1 l1 (0+5) fun v65=>
Xb .int .geq v65 (.int .i64 1) fun v66=>
Qa v66 (
kLd g1 l1 (0+5) fun v70=>
Xb .int .leq v70 (.int .i64 16) fun v71=>
Qa v71 (
kLd g1 l1 (0+6) fun v75=>
Xb .int .geq v75 (.int .i64 1) fun v76=>
Qa v76 (
kLd g1 l1 (0+6) fun v80=>
Xb .int .leq v80 (.int .i64 16) fun v81=>
Xc K v81 g1 n1) (
Xc K (.bool false) g1 n1)) (
Xc K (.bool false) g1 n1)) (
Xc K (.bool false) g1 n1)) (
Xc K (.bool false) g1 n1)) (
Xc K (.bool false) g1 n1)) (
kLd g1 l1 (0+3) fun v39=>
Xb .int .eql v39 (.int .i64 2) fun v40=>
Qa v40 (
kLd g1 l1 (0+4) fun v55=>
Xb .int .geq v55 (.int .i64 1) fun v56=>
Qa v56 (
kLd g1 l1 (0+4) fun v60=>
Xb .int .leq v60 (.int .i64 8) fun v61=>
Qa v61 (
kLd g1 l1 (0+5) fun v65=>
Xb .int .geq v65 (.int .i64 1) fun v66=>
Qa v66 (
kLd g1 l1 (0+5) fun v70=>
Xb .int .leq v70 (.int .i64 16) fun v71=>
Qa v71 (
kLd g1 l1 (0+6) fun v75=>
Xb .int .geq v75 (.int .i64 1) fun v76=>
Qa v76 (
kLd g1 l1 (0+6) fun v80=>
Xb .int .leq v80 (.int .i64 16) fun v81=>
Xc K v81 g1 n1) (
Xc K (.bool false) g1 n1)) (
Xc K (.bool false) g1 n1)) (
Xc K (.bool false) g1 n1)) (
Xc K (.bool false) g1 n1)) (
Xc K (.bool false) g1 n1)) (
kLd g1 l1 (0+3) fun v44=>
Xb .int .eql v44 (.int .i64 4) fun v45=>
Qa v45 (
kLd g1 l1 (0+4) fun v55=>
Xb .int .geq v55 (.int .i64 1) fun v56=>
Qa v56 (
kLd g1 l1 (0+4) fun v60=>
Xb .int .leq v60 (.int .i64 8) fun v61=>
Qa v61 (
kLd g1 l1 (0+5) fun v65=>
Xb .int .geq v65 (.int .i64 1) fun v66=>
Qa v66 (
kLd g1 l1 (0+5) fun v70=>
Xb .int .leq v70 (.int .i64 16) fun v71=>
Qa v71 (
kLd g1 l1 (0+6) fun v75=>
Xb .int .geq v75 (.int .i64 1) fun v76=>
Qa v76 (
kLd g1 l1 (0+6) fun v80=>
Xb .int .leq v80 (.int .i64 16) fun v81=>
Xc K v81 g1 n1) (
Xc K (.bool false) g1 n1)) (
Xc K (.bool false) g1 n1)) (
Xc K (.bool false) g1 n1)) (
Xc K (.bool false) g1 n1)) (
Xc K (.bool false) g1 n1)) (
kLd g1 l1 (0+3) fun v49=>
Xb .int .eql v49 (.int .i64 8) fun v50=>
Qa v50 (
kLd g1 l1 (0+4) fun v55=>
Xb .int .geq v55 (.int .i64 1) fun v56=>
Qa v56 (
kLd g1 l1 (0+4) fun v60=>
Xb .int .leq v60 (.int .i64 8) fun v61=>
Qa v61 (
kLd g1 l1 (0+5) fun v65=>
Xb .int .geq v65 (.int .i64 1) fun v66=>
Qa v66 (
kLd g1 l1 (0+5) fun v70=>
Xb .int .leq v70 (.int .i64 16) fun v71=>
Qa v71 (
kLd g1 l1 (0+6) fun v75=>
Xb .int .geq v75 (.int .i64 1) fun v76=>
Qa v76 (
kLd g1 l1 (0+6) fun v80=>
Xb .int .leq v80 (.int .i64 16) fun v81=>
Xc K v81 g1 n1) (
Xc K (.bool false) g1 n1)) (
Xc K (.bool false) g1 n1)) (
Xc K (.bool false) g1 n1)) (
Xc K (.bool false) g1 n1)) (
Xc K (.bool false) g1 n1)) (
Xc K (.bool false) g1 n1))))) (
Xc K (.bool false) g1 n1)) (
Xc K (.bool false) g1 n1)) (
Xc K (.bool false) g1 n1)) (
Xc K (.bool false) g1 n1)) (
Xc K (.bool false) g1 n1)) (
Xc K (.bool false) g1 n1)
theorem Qbo (C:CT) (a0:Value) (g:G) (n:Nat) (K:Cont):XaO C a0 g n K=Xg Tryz.prog C X8 [a0] g n K:=by kernel_rfl
def XaE (C:CT) (g:G) (n:Nat) (K:Cont):Prop:=
C Z5 [] g n fun v8 g1 n8=>
C QaW [v8,.slice none 0 0] g1 n8 fun v9 g2 n9=>
Zd v9 0 fun v10=>
Zd v9 1 fun v11=>
Xb .int .neq v11 (.int .i64 0) fun v13=>
Qa v13 (
Xc K (.bool false) g2 n9) (
Xb .ptr .eql v10 (.pointer none) fun v16=>
Qa v16 (
Xc K (.bool false) g2 n9) (
C ZD [v10,.int .i64 0,.int .i64 3,.int .i64 1,.int .u64 7] g2 n9 fun v20 g3 n20=>
Qa v20 (
Xc K (.bool false) g3 n20) (
C ZQ [v10,.int .i64 0] g3 n20 fun v24 g4 n24=>
Xb .int .neq v24 (.int .i64 0) fun v25=>
Qa v25 (
Xc K (.bool false) g4 n24) (
C Qz [v10,.int .i64 0] g4 n24 fun v29 g5 n29=>
Zd v29 0 fun v30=>
Zd v29 1 fun v31=>
Qv [.int .i64 0,.int .i64 0,.bool false,.bool false,.int .u64 0,.int .u64 0,.int .u64 0,.int .u64 0,.int .u64 0,.int .u64 0,.int .u64 0,.int .u64 0] .exact g5 n29 fun l3 g6 n3=>
Jl v30 fun cg7=>
cg7.length=12∧Qs g6 l3 0 cg7 fun g7=>
Xb .int .neq v31 (.int .i64 0) fun v33=>
Qa v33 (
Xc K (.bool false) g7 n3) (
kLd g7 l3 (0+0) fun v36=>
Xb .int .neq v36 (.int .i64 10) fun v37=>
Qa v37 (
Xc K (.bool false) g7 n3) (
C ZD [v10,.int .i64 0,.int .i64 3,.int .i64 1,.int .u64 7] g7 n3 fun v41 g8 n41=>
kUn .not v41 fun v42=>
Qa v42 (
Xc K (.bool false) g8 n41) (
C QG [v10,.int .i64 1,.int .i64 3,.int .i64 1] g8 n41 fun v45 g9 n45=>
C ZQ [v10,.int .i64 1] g9 n45 fun v47 g10 n47=>
C Qz [v10,.int .i64 0] g10 n47 fun v49 g11 n49=>
C QJ [v10,.int .i64 0] g11 n49 fun v51 g12 n51=>
C Qz [v10,.int .i64 1] g12 n51 fun v53 g13 n53=>
C QG [v10,.int .i64 1,.int .i64 3,.int .i64 1] g13 n53 fun v56 g14 n56=>
Zd v56 0 fun v57=>
Zd v56 1 fun v58=>
Qa v58 (
Xb .int .eql v57 (.int .u64 7) fun v62=>
Qa v62 (
C JM [v10,.int .i64 3] g14 n56 fun v66 g15 n66=>
Jl v66 fun c67=>
XaP c67 11 none fun v67=>
Xb .int .eql v67 (.int .u8 3) fun v68=>
Qa v68 (
C JN [v10,.int .i64 0] g15 n66 fun v72 g16 n72=>
JaF v72 fun v73=>
Xb .int .eql v73 (.int .i64 1) fun v74=>
Qa v74 (
C X3 [v10] g16 n72 fun v78 g17 n78=>
Jl v78 fun c79=>
XaP c79 0 none fun v79=>
Xb .int .eql v79 (.int .i64 2) fun v80=>
Xc K v80 g17 n78) (
Xc K (.bool false) g16 n72)) (
Xc K (.bool false) g15 n66)) (
Xc K (.bool false) g14 n56)) (
Xc K (.bool false) g14 n56))))))))
theorem Zbf (C:CT) (g:G) (n:Nat) (K:Cont):XaE C g n K=Xg Tryz.prog C Qu [] g n K:=by kernel_rfl
def J3 (C:CT) (K:Cont) (t:Env) (g:G) (n:Nat):Prop:=
Jd (t 2) fun l46 o46=>
kLd g l46 (o46+5) fun v47=>
C ZbU [t 6,v47] g n fun v48 g6 n48=>
Zd v48 0 fun v49=>
Zd v48 1 fun v50=>
Xb .int .neq v50 (.int .i64 0) fun v52=>
Qa v52 (
Xc K (.tuple #[.pointer none,v50]) g6 n48) (
Jd (t 2) fun l54 o54=>
Xl g6 l54 o54 7 fun c54=>
Jh [.int .i64 0,.int .i64 0,.int .i64 0,.int .i64 0,.int .i64 0,.int .i64 0,.int .i64 0,.slice none 0 0,.slice none 0 0,.pointer none,.int .i64 0] [(0,some 7,.agg c54.toArray),(9,none,v49)] fun c56=>
Jl (.agg c56.toArray) fun c57=>
Qv c57 .exact g6 n48 fun l57 g7 n57=>
C ZN [ptr l57 0] g7 n57 fun v59 g8 n59=>
Xc K (.tuple #[ptr l57 0,.int .i64 0]) g8 n59)
def QdZ (C:CT) (a0 a1:Value) (g:G) (n:Nat) (K:Cont):Prop:=
Jl a0 fun c2=>
Qv c2 .exact g n fun l2 g1 n2=>
Xl g1 l2 0 7 fun c10=>
C Qba [.agg c10.toArray] g1 n2 fun v11 g2 n11=>
kUn .not v11 fun v12=>
Qa v12 (
Xc K (.tuple #[.pointer none,.int .i64 1]) g2 n11) (
JaF a1 fun v15=>
Xb .int .neq v15 (.int .i64 0) fun v16=>
Qa v16 (
JaF a1 fun v19=>
kLd g2 l2 (0+1) fun v21=>
Xb .int .neq v19 v21 fun v22=>
Qa v22 (
Xc K (.tuple #[.pointer none,.int .i64 1]) g2 n11) (
kLd g2 l2 (0+1) fun v27=>
kLd g2 l2 (0+2) fun v29=>
C JaL [v27,v29] g2 n11 fun v30 g3 n30=>
Zd v30 0 fun v31=>
Zd v30 1 fun v32=>
Xb .int .neq v32 (.int .i64 0) fun v34=>
Qa v34 (
Xc K (.tuple #[.pointer none,v32]) g3 n30) (
JaF a1 fun v37=>
Xb .int .gtr v37 (.int .i64 0) fun v38=>
Qa v38 (
C JK [v31,a1] g3 n30 fun v41 g4 n41=>
C Qw [v31] g4 n41 fun v43 g5 n43=>
J3 C K (puts (Jq [a0,a1]) [(2,ptr l2 0),(4,.pointer none),(5,.int .i64 0),(10,.agg c10.toArray),(11,v11),(12,v12),(13,.bool false),(14,a1),(15,v15),(16,v16),(17,.bool true),(18,a1),(19,v19),(20,(ptr l2 (0+1))),(21,v21),(22,v22),(23,v22),(24,v22),(26,(ptr l2 (0+1))),(27,v27),(28,(ptr l2 (0+2))),(29,v29),(30,v30),(25,v30),(31,v31),(32,v32),(6,v31),(7,v32),(33,v32),(34,v34),(36,a1),(37,v37),(38,v38),(39,v31),(40,a1),(41,v41),(42,v31),(43,v43)]) g5 n43) (
J3 C K (puts (Jq [a0,a1]) [(2,ptr l2 0),(4,.pointer none),(5,.int .i64 0),(10,.agg c10.toArray),(11,v11),(12,v12),(13,.bool false),(14,a1),(15,v15),(16,v16),(17,.bool true),(18,a1),(19,v19),(20,(ptr l2 (0+1))),(21,v21),(22,v22),(23,v22),(24,v22),(26,(ptr l2 (0+1))),(27,v27),(28,(ptr l2 (0+2))),(29,v29),(30,v30),(25,v30),(31,v31),(32,v32),(6,v31),(7,v32),(33,v32),(34,v34),(36,a1),(37,v37),(38,v38)]) g3 n30)))) (
kLd g2 l2 (0+1) fun v27=>
kLd g2 l2 (0+2) fun v29=>
C JaL [v27,v29] g2 n11 fun v30 g9 n30=>
Zd v30 0 fun v31=>
Zd v30 1 fun v32=>
Xb .int .neq v32 (.int .i64 0) fun v34=>
Qa v34 (
Xc K (.tuple #[.pointer none,v32]) g9 n30) (
JaF a1 fun v37=>
Xb .int .gtr v37 (.int .i64 0) fun v38=>
Qa v38 (
C JK [v31,a1] g9 n30 fun v41 g10 n41=>
C Qw [v31] g10 n41 fun v43 g11 n43=>
J3 C K (puts (Jq [a0,a1]) [(2,ptr l2 0),(4,.pointer none),(5,.int .i64 0),(10,.agg c10.toArray),(11,v11),(12,v12),(13,.bool false),(14,a1),(15,v15),(16,v16),(17,.bool false),(18,undef),(19,undef),(20,undef),(21,undef),(22,undef),(23,.bool false),(24,.bool false),(26,(ptr l2 (0+1))),(27,v27),(28,(ptr l2 (0+2))),(29,v29),(30,v30),(25,v30),(31,v31),(32,v32),(6,v31),(7,v32),(33,v32),(34,v34),(36,a1),(37,v37),(38,v38),(39,v31),(40,a1),(41,v41),(42,v31),(43,v43)]) g11 n43) (
J3 C K (puts (Jq [a0,a1]) [(2,ptr l2 0),(4,.pointer none),(5,.int .i64 0),(10,.agg c10.toArray),(11,v11),(12,v12),(13,.bool false),(14,a1),(15,v15),(16,v16),(17,.bool false),(18,undef),(19,undef),(20,undef),(21,undef),(22,undef),(23,.bool false),(24,.bool false),(26,(ptr l2 (0+1))),(27,v27),(28,(ptr l2 (0+2))),(29,v29),(30,v30),(25,v30),(31,v31),(32,v32),(6,v31),(7,v32),(33,v32),(34,v34),(36,a1),(37,v37),(38,v38)]) g9 n30))))
theorem Qdx (C:CT) (a0 a1:Value) (g:G) (n:Nat) (K:Cont):QdZ C a0 a1 g n K=Xg Tryz.prog C QaW [a0,a1] g n K:=by kernel_rfl
def Za1 (C:CT) (a0 a1 a2 a3:Value) (g:G) (n:Nat) (K:Cont):Prop:=
C Xk [a0,a1] g n fun v16 g1 n16=>
Xb .ptr .eql v16 (.pointer none) fun v18=>
Qa v18 (
Xc K (.tuple #[.int .u64 0,.bool false]) g1 n16) (
C Qj [a0,a2] g1 n16 fun v22 g2 n22=>
kUn .not v22 fun v23=>
Qa v23 (
Xc K (.tuple #[.int .u64 0,.bool false]) g2 n22) (
Jm v16 fun v27=>
Jd v27 fun l28 o28=>
kLd g2 l28 (o28+0) fun v29=>
C Jad [v29,a2,a3] g2 n22 fun v32 g3 n32=>
Zd v32 0 fun v33=>
Zd v32 1 fun v34=>
Zd v32 2 fun v35=>
C ZJ [v16,v35] g3 n32 fun v38 g4 n38=>
Xc K (.tuple #[v33,v34]) g4 n38))
theorem Qbt (C:CT) (a0 a1 a2 a3:Value) (g:G) (n:Nat) (K:Cont):Za1 C a0 a1 a2 a3 g n K=Xg Tryz.prog C QG [a0,a1,a2,a3] g n K:=by kernel_rfl
def ZaM (C:CT) (a0 a1 a2 a3:Value) (g:G) (n:Nat) (K:Cont):Prop:=
C Xk [a0,a1] g n fun v12 g1 n12=>
Xb .ptr .eql v12 (.pointer none) fun v14=>
Qa v14 (
Xc K (.int .i64 1) g1 n12) (
C Qj [a0,a2] g1 n12 fun v18 g2 n18=>
kUn .not v18 fun v19=>
Qa v19 (
Xc K (.int .i64 1) g2 n18) (
Xb .int .neq a3 (.int .i64 4) fun v23=>
Qa v23 (
Xb .int .neq a3 (.int .i64 5) fun v26=>
Qa v26 (
Xc K (.int .i64 1) g2 n18) (
Jm v12 fun v30=>
Jd v30 fun l31 o31=>
Jh [.int .i64 0,.int .i64 0,.bool false,.bool false,.int .u64 0,.int .u64 0,.int .u64 0,.int .u64 0,.int .u64 0,.int .u64 0,.int .u64 0,.int .u64 0] [(0,none,a3),(1,none,a2)] fun c34=>
C Zn [(ptr l31 (o31+1)),.agg c34.toArray] g2 n18 fun v35 g3 n35=>
Xc K v35 g3 n35)) (
Jm v12 fun v30=>
Jd v30 fun l31 o31=>
Jh [.int .i64 0,.int .i64 0,.bool false,.bool false,.int .u64 0,.int .u64 0,.int .u64 0,.int .u64 0,.int .u64 0,.int .u64 0,.int .u64 0,.int .u64 0] [(0,none,a3),(1,none,a2)] fun c34=>
C Zn [(ptr l31 (o31+1)),.agg c34.toArray] g2 n18 fun v35 g4 n35=>
Xc K v35 g4 n35)))
theorem Xbl (C:CT) (a0 a1 a2 a3:Value) (g:G) (n:Nat) (K:Cont):ZaM C a0 a1 a2 a3 g n K=Xg Tryz.prog C XM [a0,a1,a2,a3] g n K:=by kernel_rfl
def QZ (C:CT) (K:Cont) (t:Env) (g:G) (n:Nat):Prop:=
Jh [.int .i64 0,.int .i64 0,.bool false,.bool false,.int .u64 0,.int .u64 0,.int .u64 0,.int .u64 0,.int .u64 0,.int .u64 0,.int .u64 0,.int .u64 0] [] fun c125=>
Jd (t 6) fun lg28 og28=>
Jl (.agg c125.toArray) fun cg28=>
cg28.length=12∧Qs g lg28 og28 cg28 fun g28=>
Jd (t 6) fun lr2 or2=>
Xl g28 lr2 or2 12 fun r2=>
Xc K (.tuple #[.int .u64 0,.bool false,.agg r2.toArray,.int .i64 0]) g28 n
def Xba (C:CT) (a0 a1:Value) (g:G) (n:Nat) (K:Cont):Prop:=
Jl a1 fun c3=>
Qv c3 .exact g n fun l3 g1 n3=>
Qv [.int .i64 0,.int .i64 0,.bool false,.bool false,.int .u64 0,.int .u64 0,.int .u64 0,.int .u64 0,.int .u64 0,.int .u64 0,.int .u64 0,.int .u64 0] .exact g1 n3 fun l6 g2 n6=>
kLd g2 l3 (0+0) fun v13=>
Xb .int .eql v13 (.int .i64 0) fun v15=>
Qa v15 (
kLd g2 l3 (0+1) fun v19=>
kLd g2 l3 (0+2) fun v21=>
kLd g2 l3 (0+3) fun v23=>
C QG [a0,v19,v21,v23] g2 n6 fun v24 g3 n24=>
Zd v24 0 fun v25=>
Zd v24 1 fun v26=>
Jh [.int .i64 0,.int .i64 0,.bool false,.bool false,.int .u64 0,.int .u64 0,.int .u64 0,.int .u64 0,.int .u64 0,.int .u64 0,.int .u64 0,.int .u64 0] [] fun c29=>
Jl (.agg c29.toArray) fun cg4=>
cg4.length=12∧Qs g3 l6 0 cg4 fun g4=>
Xl g4 l6 0 12 fun r2=>
Xc K (.tuple #[v25,v26,.agg r2.toArray,.int .i64 0]) g4 n24) (
Xb .int .eql v13 (.int .i64 1) fun v31=>
Qa v31 (
kLd g2 l3 (0+1) fun v34=>
kLd g2 l3 (0+2) fun v36=>
kLd g2 l3 (0+3) fun v38=>
kLd g2 l3 (0+4) fun v40=>
C ZD [a0,v34,v36,v38,v40] g2 n6 fun v41 g5 n41=>
Jh [.int .i64 0,.int .i64 0,.bool false,.bool false,.int .u64 0,.int .u64 0,.int .u64 0,.int .u64 0,.int .u64 0,.int .u64 0,.int .u64 0,.int .u64 0] [] fun c42=>
Jl (.agg c42.toArray) fun cg6=>
cg6.length=12∧Qs g5 l6 0 cg6 fun g6=>
Xl g6 l6 0 12 fun r2=>
Xc K (.tuple #[.int .u64 0,v41,.agg r2.toArray,.int .i64 0]) g6 n41) (
Xb .int .eql v13 (.int .i64 2) fun v44=>
Qa v44 (
kLd g2 l3 (0+1) fun v47=>
kLd g2 l3 (0+2) fun v49=>
C Z8 [a0,v47,v49] g2 n6 fun v50 g7 n50=>
Jh [.int .i64 0,.int .i64 0,.bool false,.bool false,.int .u64 0,.int .u64 0,.int .u64 0,.int .u64 0,.int .u64 0,.int .u64 0,.int .u64 0,.int .u64 0] [] fun c51=>
Jl (.agg c51.toArray) fun cg8=>
cg8.length=12∧Qs g7 l6 0 cg8 fun g8=>
Xl g8 l6 0 12 fun r2=>
Xc K (.tuple #[.int .u64 0,v50,.agg r2.toArray,.int .i64 0]) g8 n50) (
Xb .int .eql v13 (.int .i64 3) fun v53=>
Qa v53 (
Jh [.int .i64 0,.int .i64 0,.bool false,.bool false,.int .u64 0,.int .u64 0,.int .u64 0,.int .u64 0,.int .u64 0,.int .u64 0,.int .u64 0,.int .u64 0] [] fun c54=>
kLd g2 l3 (0+1) fun v57=>
kLd g2 l3 (0+2) fun v59=>
kLd g2 l3 (0+4) fun v61=>
Xb .int .rem v61 (.int .u64 2) fun v62=>
XbP .i64 v62 fun v63=>
Xb .int .add (.int .i64 4) v63 fun v64=>
C XM [a0,v57,v59,v64] g2 n6 fun v65 g9 n65=>
Jl (.agg c54.toArray) fun cg10=>
cg10.length=12∧Qs g9 l6 0 cg10 fun g10=>
Xl g10 l6 0 12 fun r2=>
Xc K (.tuple #[.int .u64 0,.bool false,.agg r2.toArray,v65]) g10 n65) (
Xb .int .eql v13 (.int .i64 4) fun v67=>
Qa v67 (
Jh [.int .i64 0,.int .i64 0,.bool false,.bool false,.int .u64 0,.int .u64 0,.int .u64 0,.int .u64 0,.int .u64 0,.int .u64 0,.int .u64 0,.int .u64 0] [] fun c68=>
kLd g2 l3 (0+1) fun v71=>
C ZQ [a0,v71] g2 n6 fun v72 g11 n72=>
Jl (.agg c68.toArray) fun cg12=>
cg12.length=12∧Qs g11 l6 0 cg12 fun g12=>
Xl g12 l6 0 12 fun r2=>
Xc K (.tuple #[.int .u64 0,.bool false,.agg r2.toArray,v72]) g12 n72) (
Xb .int .eql v13 (.int .i64 5) fun v74=>
Qa v74 (
Jh [.int .i64 0,.int .i64 0,.bool false,.bool false,.int .u64 0,.int .u64 0,.int .u64 0,.int .u64 0,.int .u64 0,.int .u64 0,.int .u64 0,.int .u64 0] [] fun c75=>
kLd g2 l3 (0+1) fun v78=>
C QJ [a0,v78] g2 n6 fun v79 g13 n79=>
Jl (.agg c75.toArray) fun cg14=>
cg14.length=12∧Qs g13 l6 0 cg14 fun g14=>
Xl g14 l6 0 12 fun r2=>
Xc K (.tuple #[.int .u64 0,.bool false,.agg r2.toArray,v79]) g14 n79) (
Xb .int .eql v13 (.int .i64 6) fun v81=>
Qa v81 (
kLd g2 l3 (0+1) fun v85=>
C Qz [a0,v85] g2 n6 fun v86 g15 n86=>
Zd v86 0 fun v87=>
Zd v86 1 fun v88=>
Qv [.int .i64 0,.int .i64 0,.bool false,.bool false,.int .u64 0,.int .u64 0,.int .u64 0,.int .u64 0,.int .u64 0,.int .u64 0,.int .u64 0,.int .u64 0] .exact g15 n86 fun l10 g16 n10=>
Jl v87 fun cg17=>
cg17.length=12∧Qs g16 l10 0 cg17 fun g17=>
Xl g17 l10 0 12 fun c89=>
Jl (.agg c89.toArray) fun cg18=>
cg18.length=12∧Qs g17 l6 0 cg18 fun g18=>
Xl g18 l6 0 12 fun r2=>
Xc K (.tuple #[.int .u64 0,.bool false,.agg r2.toArray,v88]) g18 n10) (
Xb .int .eql v13 (.int .i64 7) fun v92=>
Qa v92 (
Jh [.int .i64 0,.int .i64 0,.bool false,.bool false,.int .u64 0,.int .u64 0,.int .u64 0,.int .u64 0,.int .u64 0,.int .u64 0,.int .u64 0,.int .u64 0] [] fun c93=>
kLd g2 l3 (0+2) fun v96=>
C Zaf [a0,v96] g2 n6 fun v97 g19 n97=>
Jl (.agg c93.toArray) fun cg20=>
cg20.length=12∧Qs g19 l6 0 cg20 fun g20=>
Xl g20 l6 0 12 fun r2=>
Xc K (.tuple #[.int .u64 0,.bool false,.agg r2.toArray,v97]) g20 n97) (
Xb .int .eql v13 (.int .i64 8) fun v99=>
Qa v99 (
Jh [.int .i64 0,.int .i64 0,.bool false,.bool false,.int .u64 0,.int .u64 0,.int .u64 0,.int .u64 0,.int .u64 0,.int .u64 0,.int .u64 0,.int .u64 0] [] fun c100=>
kLd g2 l3 (0+1) fun v103=>
kLd g2 l3 (0+2) fun v105=>
C Q9 [a0,v103,v105] g2 n6 fun v106 g21 n106=>
Jl (.agg c100.toArray) fun cg22=>
cg22.length=12∧Qs g21 l6 0 cg22 fun g22=>
Xl g22 l6 0 12 fun r2=>
Xc K (.tuple #[.int .u64 0,.bool false,.agg r2.toArray,v106]) g22 n106) (
Xb .int .eql v13 (.int .i64 9) fun v108=>
Qa v108 (
Jh [.int .i64 0,.int .i64 0,.bool false,.bool false,.int .u64 0,.int .u64 0,.int .u64 0,.int .u64 0,.int .u64 0,.int .u64 0,.int .u64 0,.int .u64 0] [] fun c109=>
kLd g2 l3 (0+2) fun v112=>
C Jac [a0,v112] g2 n6 fun v113 g23 n113=>
Jl (.agg c109.toArray) fun cg24=>
cg24.length=12∧Qs g23 l6 0 cg24 fun g24=>
Xl g24 l6 0 12 fun r2=>
Xc K (.tuple #[.int .u64 0,.bool false,.agg r2.toArray,v113]) g24 n113) (
Xb .int .eql v13 (.int .i64 10) fun v115=>
Qa v115 (
Jh [.int .i64 0,.int .i64 0,.bool false,.bool false,.int .u64 0,.int .u64 0,.int .u64 0,.int .u64 0,.int .u64 0,.int .u64 0,.int .u64 0,.int .u64 0] [] fun c116=>
kLd g2 l3 (0+2) fun v119=>
C Z9 [a0,v119] g2 n6 fun v120 g25 n120=>
Jl (.agg c116.toArray) fun cg26=>
cg26.length=12∧Qs g25 l6 0 cg26 fun g26=>
Xl g26 l6 0 12 fun r2=>
Xc K (.tuple #[.int .u64 0,.bool false,.agg r2.toArray,v120]) g26 n120) (
Xb .int .eql v13 (.int .i64 11) fun v122=>
Qa v122 (
C Xag [a0] g2 n6 fun v124 g27 n124=>
QZ C K (puts (Jq [a0,a1]) [(3,ptr l3 0),(4,.int .u64 0),(5,.bool false),(6,ptr l6 0),(7,.int .i64 0),(12,(ptr l3 (0+0))),(13,v13),(15,v15),(14,v15),(31,v31),(30,v31),(44,v44),(43,v44),(53,v53),(52,v53),(67,v67),(66,v67),(74,v74),(73,v74),(81,v81),(80,v81),(92,v92),(91,v92),(99,v99),(98,v99),(108,v108),(107,v108),(115,v115),(114,v115),(122,v122),(121,v122),(123,a0),(124,v124)]) g27 n124) (
QZ C K (puts (Jq [a0,a1]) [(3,ptr l3 0),(4,.int .u64 0),(5,.bool false),(6,ptr l6 0),(7,.int .i64 0),(12,(ptr l3 (0+0))),(13,v13),(15,v15),(14,v15),(31,v31),(30,v31),(44,v44),(43,v44),(53,v53),(52,v53),(67,v67),(66,v67),(74,v74),(73,v74),(81,v81),(80,v81),(92,v92),(91,v92),(99,v99),(98,v99),(108,v108),(107,v108),(115,v115),(114,v115),(122,v122),(121,v122)]) g2 n6))))))))))))
theorem QbM (C:CT) (a0 a1:Value) (g:G) (n:Nat) (K:Cont):Xba C a0 a1 g n K=Xg Tryz.prog C Qai [a0,a1] g n K:=by kernel_rfl
def XaI (C:CT) (a0 a1:Value) (g:G) (n:Nat) (K:Cont):Prop:=
C Xk [a0,a1] g n fun v8 g1 n8=>
Xb .ptr .eql v8 (.pointer none) fun v10=>
Qa v10 (
Xc K (.slice none 0 0) g1 n8) (
Jm v8 fun v12=>
Jd v12 fun l13 o13=>
kLd g1 l13 (o13+0) fun v14=>
C J8 [v14] g1 n8 fun v15 g2 n15=>
Xc K v15 g2 n15)
theorem Qbm (C:CT) (a0 a1:Value) (g:G) (n:Nat) (K:Cont):XaI C a0 a1 g n K=Xg Tryz.prog C JN [a0,a1] g n K:=by kernel_rfl
def ZaQ (C:CT) (a0 a1:Value) (g:G) (n:Nat) (K:Cont):Prop:=
Qv [.bool false,.bool false,.int .u64 0,.int .u64 0,.int .u64 0,.int .u64 0,.int .u64 0,.int .u64 0,.int .u64 0,.int .u64 0,.int .i64 0,.int .u8 0,.int .i64 0,.int .i64 0,.int .u8 0] .exact g n fun l4 g1 n4=>
C Qj [a0,a1] g1 n4 fun v7 g2 n7=>
kUn .not v7 fun v8=>
Qa v8 (
C JaD [] g2 n7 fun v9 g3 n9=>
Jl v9 fun cg4=>
cg4.length=15∧Qs g3 l4 0 cg4 fun g4=>
Xl g4 l4 0 15 fun r0=>
Xc K (.agg r0.toArray) g4 n9) (
Jm a0 fun v11=>
Jd v11 fun l12 o12=>
kLd g2 l12 (o12+8) fun v13=>
Zc v13 a1 15 fun v15=>
Jd v15 fun l16 o16=>
Xl g2 l16 o16 15 fun c16=>
Jl (.agg c16.toArray) fun cg5=>
cg5.length=15∧Qs g2 l4 0 cg5 fun g5=>
Xl g5 l4 0 15 fun r0=>
Xc K (.agg r0.toArray) g5 n7)
theorem Qbl (C:CT) (a0 a1:Value) (g:G) (n:Nat) (K:Cont):ZaQ C a0 a1 g n K=Xg Tryz.prog C JM [a0,a1] g n K:=by kernel_rfl
def Qa0 (C:CT) (a0 a1:Value) (g:G) (n:Nat) (K:Cont):Prop:=
C Qj [a0,a1] g n fun v9 g1 n9=>
kUn .not v9 fun v10=>
Qa v10 (
Xc K (.int .i64 1) g1 n9) (
Jm a0 fun v12=>
Jd v12 fun l13 o13=>
kLd g1 l13 (o13+8) fun v14=>
Zc v14 a1 15 fun v16=>
Jd v16 fun l17 o17=>
Xl g1 l17 o17 15 fun c17=>
Qv [.bool false,.bool false,.int .u64 0,.int .u64 0,.int .u64 0,.int .u64 0,.int .u64 0,.int .u64 0,.int .u64 0,.int .u64 0,.int .i64 0,.int .u8 0,.int .i64 0,.int .i64 0,.int .u8 0] .exact g1 n9 fun l5 g2 n5=>
Jl (.agg c17.toArray) fun cg3=>
cg3.length=15∧Qs g2 l5 0 cg3 fun g3=>
kLd g3 l5 (0+0) fun v19=>
kUn .not v19 fun v20=>
Qa v20 (
Xc K (.int .i64 16) g3 n5) (
kLd g3 l5 (0+10) fun v23=>
Xb .int .geq v23 (.int .i64 0) fun v24=>
Qa v24 (
Xc K (.int .i64 16) g3 n5) (
kLd g3 l5 (0+11) fun v28=>
Xb .int .neq v28 (.int .u8 0) fun v29=>
Qa v29 (
Xc K (.int .i64 16) g3 n5) (
kLd g3 l5 (0+12) fun v33=>
Xb .int .neq v33 (.int .i64 0) fun v34=>
Qa v34 (
Xc K (.int .i64 16) g3 n5) (
C QN [a0,a1] g3 n5 fun v38 g4 n38=>
Xb .int .neq v38 (.int .i64 0) fun v40=>
Qa v40 (
Xc K v38 g4 n38) (
Jm a0 fun v43=>
Jd v43 fun l44 o44=>
kLd g4 l44 (o44+8) fun v45=>
C JaD [] g4 n38 fun v47 g5 n47=>
(Jd (ptr l44 (o44+8)) fun l _=>g5 l=g4 l)∧Zc v45 a1 15 fun v48=>
Jd v48 fun lg6 og6=>
Jl v47 fun cg6=>
cg6.length=15∧Qs g5 lg6 og6 cg6 fun g6=>
Xc K (.int .i64 0) g6 n47))))))
theorem Xbu (C:CT) (a0 a1:Value) (g:G) (n:Nat) (K:Cont):Qa0 C a0 a1 g n K=Xg Tryz.prog C Jac [a0,a1] g n K:=by kernel_rfl
def JaN (C:CT) (a0 a1 a2:Value) (g:G) (n:Nat) (K:Cont):Prop:=
C Xk [a0,a1] g n fun v12 g1 n12=>
Xb .ptr .eql v12 (.pointer none) fun v14=>
Qa v14 (
Xc K (.int .i64 1) g1 n12) (
C Qj [a0,a2] g1 n12 fun v18 g2 n18=>
kUn .not v18 fun v19=>
Qa v19 (
Xc K (.int .i64 1) g2 n18) (
Jm v12 fun v23=>
Jd v23 fun l24 o24=>
kLd g2 l24 (o24+0) fun v25=>
C X9 [v25,a2] g2 n18 fun v27 g3 n27=>
Zd v27 0 fun v28=>
Zd v27 1 fun v29=>
C ZJ [v12,v28] g3 n27 fun v32 g4 n32=>
Xc K v29 g4 n32))
theorem Zbn (C:CT) (a0 a1 a2:Value) (g:G) (n:Nat) (K:Cont):JaN C a0 a1 a2 g n K=Xg Tryz.prog C Q9 [a0,a1,a2] g n K:=by kernel_rfl
def XaY (C:CT) (a0:Value) (g:G) (n:Nat) (K:Cont):Prop:=
Xb .ptr .neq a0 (.pointer none) fun v3=>
Qa v3 (
Jm a0 fun v5=>
Jd v5 fun l6 o6=>
kLd g l6 (o6+9) fun v7=>
C Qam [v7] g n fun v8 g1 n8=>
C ZN [a0] g1 n8 fun v10 g2 n10=>
Xc K (.tuple #[]) g2 n10) (
Xc K (.tuple #[]) g n)
theorem Xbw (C:CT) (a0:Value) (g:G) (n:Nat) (K:Cont):XaY C a0 g n K=Xg Tryz.prog C Xag [a0] g n K:=by kernel_rfl
def XaD (C:CT) (a0:Value) (g:G) (n:Nat) (K:Cont):Prop:=
Qv [.int .i64 0,.int .i64 0,.int .i64 0,.int .i64 0,.int .i64 0,.int .i64 0,.int .i64 0] .exact g n fun l2 g1 n2=>
Xb .ptr .eql a0 (.pointer none) fun v4=>
Qa v4 (
Jh [.int .i64 0,.int .i64 0,.int .i64 0,.int .i64 0,.int .i64 0,.int .i64 0,.int .i64 0] [] fun c5=>
Jl (.agg c5.toArray) fun cg2=>
cg2.length=7∧Qs g1 l2 0 cg2 fun g2=>
Xl g2 l2 0 7 fun r0=>
Xc K (.agg r0.toArray) g2 n2) (
Jm a0 fun v7=>
Jd v7 fun l8 o8=>
Xl g1 l8 (o8+0) 7 fun c9=>
Jl (.agg c9.toArray) fun cg3=>
cg3.length=7∧Qs g1 l2 0 cg3 fun g3=>
Xl g3 l2 0 7 fun r0=>
Xc K (.agg r0.toArray) g3 n2)
theorem Jbf (C:CT) (a0:Value) (g:G) (n:Nat) (K:Cont):XaD C a0 g n K=Xg Tryz.prog C X3 [a0] g n K:=by kernel_rfl
def QaE (C:CT) (g:G) (n:Nat) (K:Cont):Prop:=
Qv [.int .i64 0,.int .i64 0,.int .i64 0,.int .i64 0,.int .i64 0,.int .i64 0,.int .i64 0] .exact g n fun l0 g1 n0=>
Jh [.int .i64 0,.int .i64 0,.int .i64 0,.int .i64 0,.int .i64 0,.int .i64 0,.int .i64 0] [(0,none,.int .i64 2),(1,none,.int .i64 6),(2,none,.int .i64 1),(3,none,.int .i64 1),(4,none,.int .i64 2),(5,none,.int .i64 2),(6,none,.int .i64 2)] fun c1=>
Jl (.agg c1.toArray) fun cg2=>
cg2.length=7∧Qs g1 l0 0 cg2 fun g2=>
Xl g2 l0 0 7 fun r0=>
Xc K (.agg r0.toArray) g2 n0
theorem Zbc (C:CT) (g:G) (n:Nat) (K:Cont):QaE C g n K=Xg Tryz.prog C Z5 [] g n K:=by kernel_rfl
def ZaK (C:CT) (a0 a1 a2 a3 a4:Value) (g:G) (n:Nat) (K:Cont):Prop:=
C Xk [a0,a1] g n fun v16 g1 n16=>
Xb .ptr .eql v16 (.pointer none) fun v18=>
Qa v18 (
Xc K (.bool false) g1 n16) (
C Qj [a0,a2] g1 n16 fun v22 g2 n22=>
kUn .not v22 fun v23=>
Qa v23 (
Xc K (.bool false) g2 n22) (
Jm v16 fun v27=>
Jd v27 fun l28 o28=>
kLd g2 l28 (o28+0) fun v29=>
C Q8 [v29,a2,a3,a4] g2 n22 fun v33 g3 n33=>
Zd v33 0 fun v34=>
Zd v33 1 fun v35=>
C ZJ [v16,v35] g3 n33 fun v38 g4 n38=>
Xc K v34 g4 n38))
theorem Jbn (C:CT) (a0 a1 a2 a3 a4:Value) (g:G) (n:Nat) (K:Cont):ZaK C a0 a1 a2 a3 a4 g n K=Xg Tryz.prog C ZD [a0,a1,a2,a3,a4] g n K:=by kernel_rfl
def Xbq (C:CT) (a0 a1:Value) (g:G) (n:Nat) (K:Cont):Prop:=
C Xk [a0,a1] g n fun v13 g1 n13=>
Xb .ptr .eql v13 (.pointer none) fun v15=>
Qa v15 (
Xc K (.int .i64 1) g1 n13) (
Jm v13 fun v18=>
Jd v18 fun l19 o19=>
C XQ [(ptr l19 (o19+1))] g1 n13 fun v20 g2 n20=>
Zd v20 0 fun v21=>
Zd v20 1 fun v22=>
Qv [.int .i64 0,.int .i64 0,.bool false,.bool false,.int .u64 0,.int .u64 0,.int .u64 0,.int .u64 0,.int .u64 0,.int .u64 0,.int .u64 0,.int .u64 0] .exact g2 n20 fun l6 g3 n6=>
Jl v21 fun cg4=>
cg4.length=12∧Qs g3 l6 0 cg4 fun g4=>
kUn .not v22 fun v25=>
Qa v25 (
Xc K (.int .i64 14) g4 n6) (
Jm a0 fun v28=>
Jd v28 fun l29 o29=>
kLd g4 l29 (o29+8) fun v30=>
kLd g4 l6 (0+1) fun v32=>
Zc v30 v32 15 fun v33=>
Jd v33 fun l34 o34=>
kLd g4 l34 (o34+12) fun v35=>
Xb .int .neq v35 (.int .i64 0) fun v36=>
Qa v36 (
Xc K (.int .i64 15) g4 n6) (
kLd g4 l6 (0+1) fun v39=>
C Qaf [a0,v39] g4 n6 fun v40 g5 n40=>
Jm a0 fun v43=>
Jd v43 fun l44 o44=>
kLd g5 l44 (o44+8) fun v45=>
kLd g5 l6 (0+1) fun v47=>
Zc v45 v47 15 fun v48=>
Jd v48 fun l49 o49=>
Xl g5 l49 o49 15 fun c49=>
Xl g5 l6 0 12 fun c51=>
(C Zbh [.agg c49.toArray,a1,.agg c51.toArray] g5 n40 fun v52 g6 n52=>
Zd v52 0 fun v53=>
Zd v52 1 fun v54=>
Zd v52 2 fun v55=>
Qv [.bool false,.bool false,.int .u64 0,.int .u64 0,.int .u64 0,.int .u64 0,.int .u64 0,.int .u64 0,.int .u64 0,.int .u64 0,.int .i64 0,.int .u8 0,.int .i64 0,.int .i64 0,.int .u8 0] .exact g6 n52 fun l8 g7 n8=>
(Jd (ptr l44 (o44+8)) fun l _=>g7 l=g6 l)∧(Jd (ptr l6 (0+1)) fun l _=>g7 l=g6 l)∧(Jd v48 fun l _=>g7 l=g6 l)∧(Jd (ptr l6 0) fun l _=>g7 l=g6 l)∧Jl v53 fun cg8=>
cg8.length=15∧Qs g7 l8 0 cg8 fun g8=>
Xb .int .neq v55 (.int .i64 0) fun v57=>
Qa v57 (
Xc K v55 g8 n8) (
Jm v13 fun v60=>
Jd v60 fun l61 o61=>
C Qr [(ptr l61 (o61+1))] g8 n8 fun v62 g9 n62=>
Jm a0 fun v64=>
Jd v64 fun l65 o65=>
kLd g9 l65 (o65+8) fun v66=>
kLd g9 l6 (0+1) fun v68=>
Xl g9 l8 0 15 fun c69=>
Zc v66 v68 15 fun v70=>
Jd v70 fun lg10 og10=>
Jl (.agg c69.toArray) fun cg10=>
cg10.length=15∧Qs g9 lg10 og10 cg10 fun g10=>
kLd g10 l6 (0+1) fun v74=>
C Qk [a0,v54,v74] g10 n62 fun v75 g11 n75=>
Xc K (.int .i64 0) g11 n75))∧(Qv [.bool false,.bool false,.int .u64 0,.int .u64 0,.int .u64 0,.int .u64 0,.int .u64 0,.int .u64 0,.int .u64 0,.int .u64 0,.int .i64 0,.int .u8 0,.int .i64 0,.int .i64 0,.int .u8 0] .exact g5 n40 fun l8 g12 n8=>
(Jd (ptr l44 (o44+8)) fun l _=>g12 l=g5 l)∧(Jd (ptr l6 (0+1)) fun l _=>g12 l=g5 l)∧(Jd v48 fun l _=>g12 l=g5 l)∧(Jd (ptr l6 0) fun l _=>g12 l=g5 l)∧C Zbh [.agg c49.toArray,a1,.agg c51.toArray] g12 n8 fun v52 g13 n52=>
Zd v52 0 fun v53=>
Zd v52 1 fun v54=>
Zd v52 2 fun v55=>
Jl v53 fun cg14=>
cg14.length=15∧Qs g13 l8 0 cg14 fun g14=>
Xb .int .neq v55 (.int .i64 0) fun v57=>
Qa v57 (
Xc K v55 g14 n52) (
Jm v13 fun v60=>
Jd v60 fun l61 o61=>
C Qr [(ptr l61 (o61+1))] g14 n52 fun v62 g15 n62=>
Jm a0 fun v64=>
Jd v64 fun l65 o65=>
kLd g15 l65 (o65+8) fun v66=>
kLd g15 l6 (0+1) fun v68=>
Xl g15 l8 0 15 fun c69=>
Zc v66 v68 15 fun v70=>
Jd v70 fun lg16 og16=>
Jl (.agg c69.toArray) fun cg16=>
cg16.length=15∧Qs g15 lg16 og16 cg16 fun g16=>
kLd g16 l6 (0+1) fun v74=>
C Qk [a0,v54,v74] g16 n62 fun v75 g17 n75=>
Xc K (.int .i64 0) g17 n75)))))
theorem QbV (C:CT) (a0 a1:Value) (g:G) (n:Nat) (K:Cont):Xbq C a0 a1 g n K=Xg Tryz.prog C ZQ [a0,a1] g n K:=by kernel_rfl
def Xaz (C:CT) (K:Cont) (t:Env) (g:G) (n:Nat):Prop:=
Jd (t 7) fun l50 o50=>
Xl g l50 o50 12 fun c50=>
Jd (t 4) fun lg12 og12=>
Jl (.agg c50.toArray) fun cg12=>
cg12.length=12∧Qs g lg12 og12 cg12 fun g12=>
Jd (t 4) fun lr0 or0=>
Xl g12 lr0 or0 12 fun r0=>
Xc K (.tuple #[.agg r0.toArray,t 10]) g12 n
def Zay (C:CT) (K:Cont) (I_l1:Zi) (t:Env) (g:G) (n:Nat):Prop:=
Xb .int .lss (t 40) (t 39) fun v41=>
Qa v41 (
Zc (t 38) (t 40) 12 fun v42=>
Jd v42 fun l43 o43=>
Xl g l43 o43 12 fun c43=>
Qv [.int .i64 0,.int .i64 0,.bool false,.bool false,.int .u64 0,.int .u64 0,.int .u64 0,.int .u64 0,.int .u64 0,.int .u64 0,.int .u64 0,.int .u64 0] .exact g n fun l12 g9 n12=>
Jl (.agg c43.toArray) fun cg10=>
cg10.length=12∧Qs g9 l12 0 cg10 fun g10=>
Jm (t 6) fun v45=>
Jd v45 fun l46 o46=>
Xl g10 l12 0 12 fun c47=>
C Zn [(ptr l46 (o46+2)),.agg c47.toArray] g10 n12 fun v48 g11 n48=>
Xb .int .add (t 40) (.int .i64 1) fun v49=>
I_l1 (puts t [(41,v41),(42,v42),(43,.agg c43.toArray),(12,ptr l12 0),(44,t 6),(45,v45),(46,(ptr l46 (o46+2))),(47,.agg c47.toArray),(48,v48),(49,v49),(40,v49)]) g11 n48) (
Xaz C K (puts t [(41,v41)]) g n)
def Za3 (C:CT) (a0 a1:Value) (g:G) (n:Nat) (K:Cont):Prop:=
Qv [.int .i64 0,.int .i64 0,.bool false,.bool false,.int .u64 0,.int .u64 0,.int .u64 0,.int .u64 0,.int .u64 0,.int .u64 0,.int .u64 0,.int .u64 0] .exact g n fun l4 g1 n4=>
C Xk [a0,a1] g1 n4 fun v15 g2 n15=>
Xb .ptr .eql v15 (.pointer none) fun v17=>
Qa v17 (
Jh [.int .i64 0,.int .i64 0,.bool false,.bool false,.int .u64 0,.int .u64 0,.int .u64 0,.int .u64 0,.int .u64 0,.int .u64 0,.int .u64 0,.int .u64 0] [] fun c18=>
Jl (.agg c18.toArray) fun cg3=>
cg3.length=12∧Qs g2 l4 0 cg3 fun g3=>
Xl g3 l4 0 12 fun r0=>
Xc K (.tuple #[.agg r0.toArray,.int .i64 1]) g3 n15) (
Jm v15 fun v21=>
Jd v21 fun l22 o22=>
C Qr [(ptr l22 (o22+3))] g2 n15 fun v23 g4 n23=>
Zd v23 0 fun v24=>
Zd v23 1 fun v25=>
Qv [.int .i64 0,.int .i64 0,.bool false,.bool false,.int .u64 0,.int .u64 0,.int .u64 0,.int .u64 0,.int .u64 0,.int .u64 0,.int .u64 0,.int .u64 0] .exact g4 n23 fun l7 g5 n7=>
Jl v24 fun cg6=>
cg6.length=12∧Qs g5 l7 0 cg6 fun g6=>
kUn .not v25 fun v27=>
Qa v27 (
Jh [.int .i64 0,.int .i64 0,.bool false,.bool false,.int .u64 0,.int .u64 0,.int .u64 0,.int .u64 0,.int .u64 0,.int .u64 0,.int .u64 0,.int .u64 0] [] fun c28=>
Jl (.agg c28.toArray) fun cg7=>
cg7.length=12∧Qs g6 l4 0 cg7 fun g7=>
Xl g7 l4 0 12 fun r0=>
Xc K (.tuple #[.agg r0.toArray,.int .i64 14]) g7 n7) (
Jm v15 fun v31=>
Jd v31 fun l32 o32=>
kLd g6 l32 (o32+0) fun v33=>
Xl g6 l7 0 12 fun c34=>
C Xae [v33,.agg c34.toArray] g6 n7 fun v35 g8 n35=>
Zd v35 0 fun v36=>
Zd v35 1 fun v37=>
JaF v36 fun v39=>
lfp (Zay C K) (puts (Jq [a0,a1]) [(4,ptr l4 0),(5,.int .i64 0),(13,a0),(14,a1),(15,v15),(6,v15),(16,v15),(17,v17),(20,v15),(21,v21),(22,(ptr l22 (o22+3))),(23,v23),(19,v23),(24,v24),(25,v25),(7,ptr l7 0),(8,v25),(26,v25),(27,v27),(30,v15),(31,v31),(32,(ptr l32 (o32+0))),(33,v33),(34,.agg c34.toArray),(35,v35),(29,v35),(36,v36),(37,v37),(9,v36),(10,v37),(38,v36),(39,v39),(40,.int .i64 0)]) g8 n35))
theorem Xbs (C:CT) (a0 a1:Value) (g:G) (n:Nat) (K:Cont):Za3 C a0 a1 g n K=Xg Tryz.prog C Qz [a0,a1] g n K:=by kernel_rfl
def JaE (C:CT) (a0 a1:Value) (g:G) (n:Nat) (K:Cont):Prop:=
C Xk [a0,a1] g n fun v13 g1 n13=>
Xb .ptr .eql v13 (.pointer none) fun v15=>
Qa v15 (
Xc K (.int .i64 1) g1 n13) (
Jm v13 fun v18=>
Jd v18 fun l19 o19=>
C Qr [(ptr l19 (o19+2))] g1 n13 fun v20 g2 n20=>
Zd v20 0 fun v21=>
Zd v20 1 fun v22=>
Qv [.int .i64 0,.int .i64 0,.bool false,.bool false,.int .u64 0,.int .u64 0,.int .u64 0,.int .u64 0,.int .u64 0,.int .u64 0,.int .u64 0,.int .u64 0] .exact g2 n20 fun l6 g3 n6=>
Jl v21 fun cg4=>
cg4.length=12∧Qs g3 l6 0 cg4 fun g4=>
kUn .not v22 fun v24=>
Qa v24 (
Xc K (.int .i64 14) g4 n6) (
Jm a0 fun v27=>
Jd v27 fun l28 o28=>
kLd g4 l28 (o28+8) fun v29=>
kLd g4 l6 (0+1) fun v31=>
Zc v29 v31 15 fun v32=>
Jd v32 fun l33 o33=>
Xl g4 l33 o33 15 fun c33=>
Xl g4 l6 0 12 fun c35=>
(C Xav [.agg c33.toArray,a1,.agg c35.toArray] g4 n6 fun v36 g5 n36=>
Zd v36 0 fun v37=>
Zd v36 1 fun v38=>
Zd v36 2 fun v39=>
Qv [.bool false,.bool false,.int .u64 0,.int .u64 0,.int .u64 0,.int .u64 0,.int .u64 0,.int .u64 0,.int .u64 0,.int .u64 0,.int .i64 0,.int .u8 0,.int .i64 0,.int .i64 0,.int .u8 0] .exact g5 n36 fun l8 g6 n8=>
(Jd (ptr l28 (o28+8)) fun l _=>g6 l=g5 l)∧(Jd (ptr l6 (0+1)) fun l _=>g6 l=g5 l)∧(Jd v32 fun l _=>g6 l=g5 l)∧(Jd (ptr l6 0) fun l _=>g6 l=g5 l)∧Jl v37 fun cg7=>
cg7.length=15∧Qs g6 l8 0 cg7 fun g7=>
Xb .int .neq v39 (.int .i64 0) fun v41=>
Qa v41 (
Xc K v39 g7 n8) (
Jm a0 fun v44=>
Jd v44 fun l45 o45=>
kLd g7 l45 (o45+8) fun v46=>
kLd g7 l6 (0+1) fun v48=>
Xl g7 l8 0 15 fun c49=>
Zc v46 v48 15 fun v50=>
Jd v50 fun lg8 og8=>
Jl (.agg c49.toArray) fun cg8=>
cg8.length=15∧Qs g7 lg8 og8 cg8 fun g8=>
kLd g8 l6 (0+1) fun v54=>
C Qk [a0,v38,v54] g8 n8 fun v55 g9 n55=>
Xc K (.int .i64 0) g9 n55))∧(Qv [.bool false,.bool false,.int .u64 0,.int .u64 0,.int .u64 0,.int .u64 0,.int .u64 0,.int .u64 0,.int .u64 0,.int .u64 0,.int .i64 0,.int .u8 0,.int .i64 0,.int .i64 0,.int .u8 0] .exact g4 n6 fun l8 g10 n8=>
(Jd (ptr l28 (o28+8)) fun l _=>g10 l=g4 l)∧(Jd (ptr l6 (0+1)) fun l _=>g10 l=g4 l)∧(Jd v32 fun l _=>g10 l=g4 l)∧(Jd (ptr l6 0) fun l _=>g10 l=g4 l)∧C Xav [.agg c33.toArray,a1,.agg c35.toArray] g10 n8 fun v36 g11 n36=>
Zd v36 0 fun v37=>
Zd v36 1 fun v38=>
Zd v36 2 fun v39=>
Jl v37 fun cg12=>
cg12.length=15∧Qs g11 l8 0 cg12 fun g12=>
Xb .int .neq v39 (.int .i64 0) fun v41=>
Qa v41 (
Xc K v39 g12 n36) (
Jm a0 fun v44=>
Jd v44 fun l45 o45=>
kLd g12 l45 (o45+8) fun v46=>
kLd g12 l6 (0+1) fun v48=>
Xl g12 l8 0 15 fun c49=>
Zc v46 v48 15 fun v50=>
Jd v50 fun lg13 og13=>
Jl (.agg c49.toArray) fun cg13=>
cg13.length=15∧Qs g12 lg13 og13 cg13 fun g13=>
kLd g13 l6 (0+1) fun v54=>
C Qk [a0,v38,v54] g13 n36 fun v55 g14 n55=>
Xc K (.int .i64 0) g14 n55))))
theorem Qbe (C:CT) (a0 a1:Value) (g:G) (n:Nat) (K:Cont):JaE C a0 a1 g n K=Xg Tryz.prog C QJ [a0,a1] g n K:=by kernel_rfl
def Jc6 (C:CT) (a0:Value) (g:G) (n:Nat) (K:Cont):Prop:=
Jl a0 fun c1=>
Qv c1 .exact g n fun l1 g1 n1=>
kLd g1 l1 (0+3) fun v5=>
Xb .int .eql v5 (.int .i64 1) fun v6=>
Qa v6 (
kLd g1 l1 (0+0) fun v23=>
C Qe [v23,.int .i64 1,.int .i64 8] g1 n1 fun v24 g2 n24=>
Qa v24 (
kLd g2 l1 (0+1) fun v27=>
C Qe [v27,.int .i64 2,.int .i64 64] g2 n24 fun v28 g3 n28=>
Qa v28 (
kLd g3 l1 (0+2) fun v32=>
kLd g3 l1 (0+1) fun v34=>
Xb .int .sub v34 (.int .i64 1) fun v35=>
C Qe [v32,.int .i64 1,v35] g3 n28 fun v36 g4 n36=>
Qa v36 (
kLd g4 l1 (0+4) fun v43=>
C Qe [v43,.int .i64 1,.int .i64 8] g4 n36 fun v44 g5 n44=>
Qa v44 (
kLd g5 l1 (0+5) fun v48=>
C Qe [v48,.int .i64 1,.int .i64 16] g5 n44 fun v49 g6 n49=>
Qa v49 (
kLd g6 l1 (0+6) fun v53=>
C Qe [v53,.int .i64 1,.int .i64 16] g6 n49 fun v54 g7 n54=>
Xc K v54 g7 n54) (
Xc K (.bool false) g6 n49)) (
Xc K (.bool false) g5 n44)) (
Xc K (.bool false) g4 n36)) (
Xc K (.bool false) g3 n28)) (
Xc K (.bool false) g2 n24)) (
kLd g1 l1 (0+3) fun v9=>
Xb .int .eql v9 (.int .i64 2) fun v10=>
Qa v10 (
kLd g1 l1 (0+0) fun v23=>
C Qe [v23,.int .i64 1,.int .i64 8] g1 n1 fun v24 g8 n24=>
Qa v24 (
kLd g8 l1 (0+1) fun v27=>
C Qe [v27,.int .i64 2,.int .i64 64] g8 n24 fun v28 g9 n28=>
Qa v28 (
kLd g9 l1 (0+2) fun v32=>
kLd g9 l1 (0+1) fun v34=>
Xb .int .sub v34 (.int .i64 1) fun v35=>
C Qe [v32,.int .i64 1,v35] g9 n28 fun v36 g10 n36=>
Qa v36 (
kLd g10 l1 (0+4) fun v43=>
C Qe [v43,.int .i64 1,.int .i64 8] g10 n36 fun v44 g11 n44=>
Qa v44 (
kLd g11 l1 (0+5) fun v48=>
C Qe [v48,.int .i64 1,.int .i64 16] g11 n44 fun v49 g12 n49=>
Qa v49 (
kLd g12 l1 (0+6) fun v53=>
C Qe [v53,.int .i64 1,.int .i64 16] g12 n49 fun v54 g13 n54=>
Xc K v54 g13 n54) (
Xc K (.bool false) g12 n49)) (
Xc K (.bool false) g11 n44)) (
Xc K (.bool false) g10 n36)) (
Xc K (.bool false) g9 n28)) (
Xc K (.bool false) g8 n24)) (
kLd g1 l1 (0+3) fun v14=>
Xb .int .eql v14 (.int .i64 4) fun v15=>
Qa v15 (
kLd g1 l1 (0+0) fun v23=>
C Qe [v23,.int .i64 1,.int .i64 8] g1 n1 fun v24 g14 n24=>
Qa v24 (
kLd g14 l1 (0+1) fun v27=>
C Qe [v27,.int .i64 2,.int .i64 64] g14 n24 fun v28 g15 n28=>
Qa v28 (
kLd g15 l1 (0+2) fun v32=>
kLd g15 l1 (0+1) fun v34=>
Xb .int .sub v34 (.int .i64 1) fun v35=>
C Qe [v32,.int .i64 1,v35] g15 n28 fun v36 g16 n36=>
Qa v36 (
kLd g16 l1 (0+4) fun v43=>
C Qe [v43,.int .i64 1,.int .i64 8] g16 n36 fun v44 g17 n44=>
Qa v44 (
kLd g17 l1 (0+5) fun v48=>
C Qe [v48,.int .i64 1,.int .i64 16] g17 n44 fun v49 g18 n49=>
Qa v49 (
kLd g18 l1 (0+6) fun v53=>
C Qe [v53,.int .i64 1,.int .i64 16] g18 n49 fun v54 g19 n54=>
Xc K v54 g19 n54) (
Xc K (.bool false) g18 n49)) (
Xc K (.bool false) g17 n44)) (
Xc K (.bool false) g16 n36)) (
Xc K (.bool false) g15 n28)) (
Xc K (.bool false) g14 n24)) (
kLd g1 l1 (0+3) fun v19=>
Xb .int .eql v19 (.int .i64 8) fun v20=>
kLd g1 l1 (0+0) fun v23=>
C Qe [v23,.int .i64 1,.int .i64 8] g1 n1 fun v24 g20 n24=>
Qa v24 (
kLd g20 l1 (0+1) fun v27=>
C Qe [v27,.int .i64 2,.int .i64 64] g20 n24 fun v28 g21 n28=>
Qa v28 (
kLd g21 l1 (0+2) fun v32=>
kLd g21 l1 (0+1) fun v34=>
Xb .int .sub v34 (.int .i64 1) fun v35=>
C Qe [v32,.int .i64 1,v35] g21 n28 fun v36 g22 n36=>
Qa v36 (
Qa v20 (
kLd g22 l1 (0+4) fun v43=>
C Qe [v43,.int .i64 1,.int .i64 8] g22 n36 fun v44 g23 n44=>
Qa v44 (
kLd g23 l1 (0+5) fun v48=>
C Qe [v48,.int .i64 1,.int .i64 16] g23 n44 fun v49 g24 n49=>
Qa v49 (
kLd g24 l1 (0+6) fun v53=>
C Qe [v53,.int .i64 1,.int .i64 16] g24 n49 fun v54 g25 n54=>
Xc K v54 g25 n54) (
Xc K (.bool false) g24 n49)) (
Xc K (.bool false) g23 n44)) (
Xc K (.bool false) g22 n36)) (
Xc K (.bool false) g22 n36)) (
Xc K (.bool false) g21 n28)) (
Xc K (.bool false) g20 n24))))
theorem Zdg (C:CT) (a0:Value) (g:G) (n:Nat) (K:Cont):Jc6 C a0 g n K=Xg Tryz.prog C Qba [a0] g n K:=by kernel_rfl
def Qex (C:CT) (a0 a1:Value) (g:G) (n:Nat) (K:Cont):Prop:=
Xb .int .lss a0 (.int .i64 2) fun v7=>
Qa v7 (
Xc K (.tuple #[.pointer none,.int .i64 1]) g n) (
Xb .int .gtr a0 (.int .i64 64) fun v10=>
Qa v10 (
Xc K (.tuple #[.pointer none,.int .i64 1]) g n) (
Xb .int .lss a1 (.int .i64 1) fun v14=>
Qa v14 (
Xc K (.tuple #[.pointer none,.int .i64 1]) g n) (
Xb .int .sub a0 (.int .i64 1) fun v19=>
Xb .int .gtr a1 v19 fun v20=>
Qa v20 (
Xc K (.tuple #[.pointer none,.int .i64 1]) g n) (
Qby a0 a0 [.int .u64 0,.int .u64 0,.int .u64 0,.int .u64 0,.int .u64 0,.int .u64 0,.int .u64 0,.int .u64 0] 64 g n fun v23 g1 n23=>
Jh [.slice none 0 0,.int .i64 0,.int .i64 0,.int .i64 0] [(0,none,v23),(1,none,a1)] fun c25=>
Jl (.agg c25.toArray) fun c26=>
Qv c26 .exact g1 n23 fun l26 g2 n26=>
Xc K (.tuple #[ptr l26 0,.int .i64 0]) g2 n26))))
theorem Qd5 (C:CT) (a0 a1:Value) (g:G) (n:Nat) (K:Cont):Qex C a0 a1 g n K=Xg Tryz.prog C JaL [a0,a1] g n K:=by kernel_rfl
def XaC (C:CT) (a0 a1:Value) (g:G) (n:Nat) (K:Cont):Prop:=
Xb .ptr .eql a0 (.pointer none) fun v6=>
Qa v6 (
Xc K (.int .i64 1) g n) (
JaF a1 fun v9=>
Jm a0 fun v11=>
Jd v11 fun l12 o12=>
kLd g l12 (o12+0) fun v13=>
JaF v13 fun v14=>
Xb .int .neq v9 v14 fun v15=>
Qa v15 (
Xc K (.int .i64 1) g n) (
Jm a0 fun v18=>
Jd v18 fun l19 o19=>
kLd g l19 (o19+0) fun v20=>
Zbg v20 a1 8 g fun v22 g1=>
Xc K (.int .i64 0) g1 n))
theorem Za7 (C:CT) (a0 a1:Value) (g:G) (n:Nat) (K:Cont):XaC C a0 a1 g n K=Xg Tryz.prog C JK [a0,a1] g n K:=by kernel_rfl
def Ja5 (C:CT) (a0:Value) (g:G) (n:Nat) (K:Cont):Prop:=
Xb .ptr .neq a0 (.pointer none) fun v3=>
Qa v3 (
Jm a0 fun v5=>
Jd v5 fun l6 o6=>
kLd g l6 (o6+0) fun v7=>
Jm a0 fun v9=>
Jd v9 fun l10 o10=>
kLd g l10 (o10+1) fun v11=>
Xr v7 none (some v11) none 8 fun v12=>
J9 v12 [.int .u64 0,.int .u64 0,.int .u64 0,.int .u64 0,.int .u64 0,.int .u64 0,.int .u64 0,.int .u64 0] g fun v_ g1=>
Xc K (.tuple #[]) g1 n) (
Xc K (.tuple #[]) g n)
theorem XbD (C:CT) (a0:Value) (g:G) (n:Nat) (K:Cont):Ja5 C a0 g n K=Xg Tryz.prog C Qw [a0] g n K:=by kernel_rfl
def ZeD (C:CT) (a0 a1:Value) (g:G) (n:Nat) (K:Cont):Prop:=
Xb .ptr .eql a0 (.pointer none) fun v7=>
Qa v7 (
Xc K (.tuple #[.pointer none,.int .i64 1]) g n) (
Xb .int .lss a1 (.int .i64 1) fun v10=>
Qa v10 (
Xc K (.tuple #[.pointer none,.int .i64 1]) g n) (
Xb .int .gtr a1 (.int .i64 16) fun v14=>
Qa v14 (
Xc K (.tuple #[.pointer none,.int .i64 1]) g n) (
Jh [.pointer none,.int .i64 0,.slice none 0 0] [(0,none,a0),(1,none,a1)] fun c18=>
Jl (.agg c18.toArray) fun c19=>
Qv c19 .exact g n fun l19 g1 n19=>
Xc K (.tuple #[ptr l19 0,.int .i64 0]) g1 n19)))
theorem Qd6 (C:CT) (a0 a1:Value) (g:G) (n:Nat) (K:Cont):ZeD C a0 a1 g n K=Xg Tryz.prog C ZbU [a0,a1] g n K:=by kernel_rfl
def Jas (C:CT) (K:Cont) (I_l3:Zi) (t:Env) (g:G) (n:Nat):Prop:=
Xb .int .lss (t 57) (t 56) fun v58=>
Qa v58 (
Jm (t 0) fun v61=>
Jd v61 fun l62 o62=>
kLd g l62 (o62+8) fun v63=>
C JaD [] g n fun v65 g7 n65=>
(Jd (ptr l62 (o62+8)) fun l _=>g7 l=g l)∧Zc v63 (t 57) 15 fun v66=>
Jd v66 fun lg8 og8=>
Jl v65 fun cg8=>
cg8.length=15∧Qs g7 lg8 og8 cg8 fun g8=>
Xb .int .add (t 57) (.int .i64 1) fun v67=>
I_l3 (puts t [(58,v58),(59,t 57),(3,t 57),(60,t 0),(61,v61),(62,(ptr l62 (o62+8))),(63,v63),(64,t 57),(65,v65),(66,v66),(67,v67),(57,v67)]) g8 n65) (
Xc K (.tuple #[]) g n)
def Q7 (C:CT) (K:Cont) (t:Env) (g:G) (n:Nat):Prop:=
Jm (t 0) fun v45=>
Jd v45 fun l46 o46=>
kLd g l46 (o46+0+1) fun v48=>
Qby v48 v48 [.bool false,.bool false,.int .u64 0,.int .u64 0,.int .u64 0,.int .u64 0,.int .u64 0,.int .u64 0,.int .u64 0,.int .u64 0,.int .i64 0,.int .u8 0,.int .i64 0,.int .i64 0,.int .u8 0] 112 g n fun v49 g5 n49=>
Jm (t 0) fun v50=>
Jd v50 fun l51 o51=>
kSt g5 l51 (o51+8) v49 fun g6=>
Jm (t 0) fun v53=>
Jd v53 fun l54 o54=>
kLd g6 l54 (o54+8) fun v55=>
JaF v55 fun v56=>
lfp (Jas C K) (puts t [(43,t 0),(44,t 0),(45,v45),(46,(ptr l46 (o46+0))),(47,(ptr l46 (o46+0+1))),(48,v48),(49,v49),(50,v50),(51,(ptr l51 (o51+8))),(52,t 0),(53,v53),(54,(ptr l54 (o54+8))),(55,v55),(56,v56),(57,.int .i64 0)]) g6 n49
def Qat (C:CT) (K:Cont) (I_l1:Zi) (t:Env) (g:G) (n:Nat):Prop:=
Xb .int .lss (t 18) (t 17) fun v19=>
Qa v19 (
Jm (t 0) fun v23=>
Jd v23 fun l24 o24=>
kLd g l24 (o24+7) fun v25=>
Jm (t 0) fun v28=>
Jd v28 fun l29 o29=>
kLd g l29 (o29+0+3) fun v31=>
Jm (t 0) fun v33=>
Jd v33 fun l34 o34=>
kLd g l34 (o34+0+4) fun v36=>
C Ja7 [v31,v36] g n fun v37 g3 n37=>
(Jd (ptr l24 (o24+7)) fun l _=>g3 l=g l)∧Zd v37 0 fun v38=>
Zd v37 1 fun v39=>
Zc v25 (t 18) 4 fun v40=>
Jd v40 fun l41 o41=>
kSt g3 l41 (o41+0) v38 fun g4=>
Xb .int .add (t 18) (.int .i64 1) fun v42=>
I_l1 (puts t [(19,v19),(20,t 18),(2,t 18),(22,t 0),(23,v23),(24,(ptr l24 (o24+7))),(25,v25),(26,t 18),(27,t 0),(28,v28),(29,(ptr l29 (o29+0))),(30,(ptr l29 (o29+0+3))),(31,v31),(32,t 0),(33,v33),(34,(ptr l34 (o34+0))),(35,(ptr l34 (o34+0+4))),(36,v36),(37,v37),(21,v37),(38,v38),(39,v39),(40,v40),(41,(ptr l41 (o41+0))),(42,v42),(18,v42)]) g4 n37) (
Q7 C K (puts t [(19,v19)]) g n)
def ZaR (C:CT) (a0:Value) (g:G) (n:Nat) (K:Cont):Prop:=
Jm a0 fun v6=>
Jd v6 fun l7 o7=>
kLd g l7 (o7+0+0) fun v9=>
Qby v9 v9 [.pointer none,.slice none 0 0,.slice none 0 0,.slice none 0 0] 80 g n fun v10 g1 n10=>
Jm a0 fun v11=>
Jd v11 fun l12 o12=>
kSt g1 l12 (o12+7) v10 fun g2=>
Jm a0 fun v14=>
Jd v14 fun l15 o15=>
kLd g2 l15 (o15+7) fun v16=>
JaF v16 fun v17=>
lfp (Qat C K) (puts (Jq [a0]) [(4,a0),(5,a0),(6,v6),(7,(ptr l7 (o7+0))),(8,(ptr l7 (o7+0+0))),(9,v9),(10,v10),(11,v11),(12,(ptr l12 (o12+7))),(13,a0),(14,v14),(15,(ptr l15 (o15+7))),(16,v16),(17,v17),(18,.int .i64 0)]) g2 n10
theorem Xbn (C:CT) (a0:Value) (g:G) (n:Nat) (K:Cont):ZaR C a0 g n K=Xg Tryz.prog C ZN [a0] g n K:=by kernel_rfl
def Zbr (C:CT) (a0 a1:Value) (g:G) (n:Nat) (K:Cont):Prop:=
Xb .ptr .eql a0 (.pointer none) fun v6=>
Qa v6 (
Xc K (.pointer none) g n) (
Xb .int .lss a1 (.int .i64 0) fun v9=>
Qa v9 (
Xc K (.pointer none) g n) (
Jm a0 fun v14=>
Jd v14 fun l15 o15=>
kLd g l15 (o15+7) fun v16=>
JaF v16 fun v17=>
Xb .int .geq a1 v17 fun v18=>
Qa v18 (
Xc K (.pointer none) g n) (
Jm a0 fun v21=>
Jd v21 fun l22 o22=>
C Zu [(ptr l22 (o22+10)),.int .i64 1] g n fun v23 g1 n23=>
Jm a0 fun v25=>
Jd v25 fun l26 o26=>
kLd g1 l26 (o26+7) fun v27=>
Zc v27 a1 4 fun v29=>
Xc K v29 g1 n23)))
theorem XbR (C:CT) (a0 a1:Value) (g:G) (n:Nat) (K:Cont):Zbr C a0 a1 g n K=Xg Tryz.prog C Xk [a0,a1] g n K:=by kernel_rfl
def Xa3 (C:CT) (a0 a1:Value) (g:G) (n:Nat) (K:Cont):Prop:=
Xb .ptr .neq a0 (.pointer none) fun v6=>
Qa v6 (
Xb .int .geq a1 (.int .i64 0) fun v9=>
Qa v9 (
Jm a0 fun v14=>
Jd v14 fun l15 o15=>
kLd g l15 (o15+8) fun v16=>
JaF v16 fun v17=>
Xb .int .lss a1 v17 fun v18=>
Xc K v18 g n) (
Xc K (.bool false) g n)) (
Xc K (.bool false) g n)
theorem Qbz (C:CT) (a0 a1:Value) (g:G) (n:Nat) (K:Cont):Xa3 C a0 a1 g n K=Xg Tryz.prog C Qj [a0,a1] g n K:=by kernel_rfl
def Qae (C:CT) (K:Cont) (t:Env) (g:G) (n:Nat):Prop:=
Jh [.int .u64 0,.int .u64 0,.int .u64 0,.int .u64 0,.int .u64 0,.int .u64 0,.int .u64 0,.int .u64 0] [] fun c40=>
C JJ [t 0,t 1,.int .i64 4,.int .i64 1,.agg c40.toArray] g n fun v41 g6 n41=>
Xc K (.tuple #[.int .u64 0,.bool false,v41]) g6 n41
def Zz (C:CT) (K:Cont) (t:Env) (g:G) (n:Nat):Prop:=
Qa (t 23) (
Jm (t 0) fun v29=>
Jd v29 fun l30 o30=>
kLd g l30 (o30+0) fun v31=>
C X7 [v31,t 1] g n fun v33 g5 n33=>
Jd (t 9) fun l35 o35=>
ZH (ptr l35 (o35+2)) (t 2) 8 1 fun v36=>
Jd v36 fun l37 o37=>
kLd g5 l37 o37 fun v37=>
Xc K (.tuple #[v37,.bool true,.slice none 0 0]) g5 n33) (
Qae C K t g n)
def Qa2 (C:CT) (a0 a1 a2:Value) (g:G) (n:Nat) (K:Cont):Prop:=
Xb .ptr .eql a0 (.pointer none) fun v11=>
Qa v11 (
Xc K (.tuple #[.int .u64 0,.bool false,.slice none 0 0]) g n) (
C Jaz [a1,a2] g n fun v15 g1 n15=>
kUn .not v15 fun v16=>
Qa v16 (
Xc K (.tuple #[.int .u64 0,.bool false,.slice none 0 0]) g1 n15) (
C Zm [a0,a1] g1 n15 fun v20 g2 n20=>
Qv [.int .i64 0,.int .i64 0,.int .u64 0,.int .u64 0,.int .u64 0,.int .u64 0,.int .u64 0,.int .u64 0,.int .u64 0,.int .u64 0,.int .i64 0] .exact g2 n20 fun l9 g3 n9=>
Jl v20 fun cg4=>
cg4.length=11∧Qs g3 l9 0 cg4 fun g4=>
kLd g4 l9 (0+0) fun v22=>
Xb .int .eql v22 (.int .i64 1) fun v24=>
Qa v24 (
Zz C K (puts (Jq [a0,a1,a2]) [(6,.int .u64 0),(7,.bool false),(8,.slice none 0 0),(10,a0),(11,v11),(12,.bool false),(13,a1),(14,a2),(15,v15),(16,v16),(17,v16),(18,a0),(19,a1),(20,v20),(9,ptr l9 0),(21,(ptr l9 (0+0))),(22,v22),(24,v24),(23,v24)]) g4 n9) (
Xb .int .eql v22 (.int .i64 2) fun v25=>
Qa v25 (
Zz C K (puts (Jq [a0,a1,a2]) [(6,.int .u64 0),(7,.bool false),(8,.slice none 0 0),(10,a0),(11,v11),(12,.bool false),(13,a1),(14,a2),(15,v15),(16,v16),(17,v16),(18,a0),(19,a1),(20,v20),(9,ptr l9 0),(21,(ptr l9 (0+0))),(22,v22),(24,v24),(23,v24),(25,v25),(23,v25)]) g4 n9) (
Xb .int .eql v22 (.int .i64 3) fun v26=>
Qa v26 (
Zz C K (puts (Jq [a0,a1,a2]) [(6,.int .u64 0),(7,.bool false),(8,.slice none 0 0),(10,a0),(11,v11),(12,.bool false),(13,a1),(14,a2),(15,v15),(16,v16),(17,v16),(18,a0),(19,a1),(20,v20),(9,ptr l9 0),(21,(ptr l9 (0+0))),(22,v22),(24,v24),(23,v24),(25,v25),(23,v25),(26,v26),(23,v26)]) g4 n9) (
Xb .int .eql v22 (.int .i64 6) fun v27=>
Zz C K (puts (Jq [a0,a1,a2]) [(6,.int .u64 0),(7,.bool false),(8,.slice none 0 0),(10,a0),(11,v11),(12,.bool false),(13,a1),(14,a2),(15,v15),(16,v16),(17,v16),(18,a0),(19,a1),(20,v20),(9,ptr l9 0),(21,(ptr l9 (0+0))),(22,v22),(24,v24),(23,v24),(25,v25),(23,v25),(26,v26),(23,v26),(27,v27),(23,v27)]) g4 n9)))))
theorem ZbA (C:CT) (a0 a1 a2:Value) (g:G) (n:Nat) (K:Cont):Qa2 C a0 a1 a2 g n K=Xg Tryz.prog C Jad [a0,a1,a2] g n K:=by kernel_rfl
def Ja0 (C:CT) (K:Cont) (I_l1:Zi) (t:Env) (g:G) (n:Nat):Prop:=
Xb .int .lss (t 8) (t 7) fun v9=>
Qa v9 (
Zc (t 6) (t 8) 12 fun v10=>
Jd v10 fun l11 o11=>
Xl g l11 o11 12 fun c11=>
Qv [.int .i64 0,.int .i64 0,.bool false,.bool false,.int .u64 0,.int .u64 0,.int .u64 0,.int .u64 0,.int .u64 0,.int .u64 0,.int .u64 0,.int .u64 0] .exact g n fun l5 g1 n5=>
Jl (.agg c11.toArray) fun cg2=>
cg2.length=12∧Qs g1 l5 0 cg2 fun g2=>
Jm (t 0) fun v13=>
Jd v13 fun l14 o14=>
Xl g2 l5 0 12 fun c15=>
C Zn [(ptr l14 (o14+1)),.agg c15.toArray] g2 n5 fun v16 g3 n16=>
Xb .int .add (t 8) (.int .i64 1) fun v17=>
I_l1 (puts t [(9,v9),(10,v10),(11,.agg c11.toArray),(5,ptr l5 0),(12,t 0),(13,v13),(14,(ptr l14 (o14+1))),(15,.agg c15.toArray),(16,v16),(17,v17),(8,v17)]) g3 n16) (
Xc K (.tuple #[]) g n)
def JbB (C:CT) (a0 a1:Value) (g:G) (n:Nat) (K:Cont):Prop:=
JaF a1 fun v7=>
lfp (Ja0 C K) (puts (Jq [a0,a1]) [(6,a1),(7,v7),(8,.int .i64 0)]) g n
theorem Qb3 (C:CT) (a0 a1:Value) (g:G) (n:Nat) (K:Cont):JbB C a0 a1 g n K=Xg Tryz.prog C ZJ [a0,a1] g n K:=by kernel_rfl
def Za0 (C:CT) (a0 a1:Value) (g:G) (n:Nat) (K:Cont):Prop:=
C Qj [a0,a1] g n fun v12 g1 n12=>
kUn .not v12 fun v13=>
Qa v13 (
Xc K (.int .i64 1) g1 n12) (
Jm a0 fun v16=>
Jd v16 fun l17 o17=>
kLd g1 l17 (o17+8) fun v18=>
Zc v18 a1 15 fun v20=>
Jd v20 fun l21 o21=>
Xl g1 l21 o21 15 fun c21=>
C ZaF [.agg c21.toArray] g1 n12 fun v22 g2 n22=>
kUn .not v22 fun v23=>
Qa v23 (
Xc K (.int .i64 16) g2 n22) (
C QN [a0,a1] g2 n22 fun v26 g3 n26=>
Xb .int .neq v26 (.int .i64 0) fun v28=>
Qa v28 (
Xc K v26 g3 n26) (
Jm a0 fun v32=>
Jd v32 fun l33 o33=>
kLd g3 l33 (o33+8) fun v34=>
Zc v34 a1 15 fun v36=>
Jd v36 fun l37 o37=>
Xl g3 l37 o37 15 fun c37=>
C JaW [.agg c37.toArray] g3 n26 fun v38 g4 n38=>
Zd v38 0 fun v39=>
Zd v38 1 fun v40=>
Zd v38 2 fun v41=>
Qv [.bool false,.bool false,.int .u64 0,.int .u64 0,.int .u64 0,.int .u64 0,.int .u64 0,.int .u64 0,.int .u64 0,.int .u64 0,.int .i64 0,.int .u8 0,.int .i64 0,.int .i64 0,.int .u8 0] .exact g4 n38 fun l6 g5 n6=>
Jl v39 fun cg6=>
cg6.length=15∧Qs g5 l6 0 cg6 fun g6=>
Xb .int .neq v41 (.int .i64 0) fun v43=>
Qa v43 (
Xc K v41 g6 n6) (
Jm a0 fun v46=>
Jd v46 fun l47 o47=>
kLd g6 l47 (o47+8) fun v48=>
Xl g6 l6 0 15 fun c50=>
Zc v48 a1 15 fun v51=>
Jd v51 fun lg7 og7=>
Jl (.agg c50.toArray) fun cg7=>
cg7.length=15∧Qs g6 lg7 og7 cg7 fun g7=>
C Qk [a0,v40,a1] g7 n6 fun v55 g8 n55=>
Xc K (.int .i64 0) g8 n55))))
theorem Xbx (C:CT) (a0 a1:Value) (g:G) (n:Nat) (K:Cont):Za0 C a0 a1 g n K=Xg Tryz.prog C Zaf [a0,a1] g n K:=by kernel_rfl
def JaQ (C:CT) (a0 a1:Value) (g:G) (n:Nat) (K:Cont):Prop:=
C Qj [a0,a1] g n fun v7 g1 n7=>
kUn .not v7 fun v8=>
Qa v8 (
Xc K (.int .i64 1) g1 n7) (
Jm a0 fun v10=>
Jd v10 fun l11 o11=>
kLd g1 l11 (o11+9) fun v12=>
C Xn [v12,a1] g1 n7 fun v14 g2 n14=>
Xc K v14 g2 n14)
theorem Zbl (C:CT) (a0 a1:Value) (g:G) (n:Nat) (K:Cont):JaQ C a0 a1 g n K=Xg Tryz.prog C Z9 [a0,a1] g n K:=by kernel_rfl
def Xbp (C:CT) (a0 a1:Value) (g:G) (n:Nat) (K:Cont):Prop:=
Jl a1 fun c3=>
Qv c3 .exact g n fun l3 g1 n3=>
Xb .ptr .eql a0 (.pointer none) fun v7=>
Qa v7 (
Xc K (.int .i64 1) g1 n3) (
Xl g1 l3 0 12 fun c9=>
C Qao [.agg c9.toArray] g1 n3 fun v10 g2 n10=>
kUn .not v10 fun v11=>
Qa v11 (
Xc K (.int .i64 11) g2 n10) (
Jm a0 fun v14=>
Jd v14 fun l15 o15=>
kLd g2 l15 (o15+0) fun v16=>
JaF v16 fun v17=>
Xb .int .geq v17 (.int .i64 1000) fun v18=>
Qa v18 (
Xc K (.int .i64 13) g2 n10) (
Jm a0 fun v21=>
Jd v21 fun l22 o22=>
kLd g2 l22 (o22+0) fun v23=>
Xl g2 l3 0 12 fun c24=>
Jh (reps 1 [.int .i64 0,.int .i64 0,.bool false,.bool false,.int .u64 0,.int .u64 0,.int .u64 0,.int .u64 0,.int .u64 0,.int .u64 0,.int .u64 0,.int .u64 0]) [(0,some 12,.agg c24.toArray)] fun c25=>
Qv c25 .exact g2 n10 fun l25 g3 n25=>
(Jd (ptr l22 (o22+0)) fun l _=>g3 l=g2 l)∧Jaf v23 (.slice (some ⟨l25,0,none⟩) 1 1) 12 88 g3 n25 fun v26 g4 n26=>
Jm a0 fun v27=>
Jd v27 fun l28 o28=>
kSt g4 l28 (o28+0) v26 fun g5=>
Xc K (.int .i64 0) g5 n26)))
theorem QbR (C:CT) (a0 a1:Value) (g:G) (n:Nat) (K:Cont):Xbp C a0 a1 g n K=Xg Tryz.prog C Zn [a0,a1] g n K:=by kernel_rfl
def JaK (C:CT) (a0 a1 a2:Value) (g:G) (n:Nat) (K:Cont):Prop:=
C Xk [a0,a1] g n fun v10 g1 n10=>
Xb .ptr .eql v10 (.pointer none) fun v12=>
Qa v12 (
Xc K (.bool false) g1 n10) (
C Qj [a0,a2] g1 n10 fun v16 g2 n16=>
kUn .not v16 fun v17=>
Qa v17 (
Xc K (.bool false) g2 n16) (
Jm v10 fun v21=>
Jd v21 fun l22 o22=>
kLd g2 l22 (o22+0) fun v23=>
C ZO [v23,a2] g2 n16 fun v25 g3 n25=>
C ZJ [v10,v25] g3 n25 fun v26 g4 n26=>
Jm v10 fun v28=>
Jd v28 fun l29 o29=>
kLd g4 l29 (o29+0) fun v30=>
C ZG [v30,a2] g4 n26 fun v32 g5 n32=>
Xc K v32 g5 n32))
theorem Zbp (C:CT) (a0 a1 a2:Value) (g:G) (n:Nat) (K:Cont):JaK C a0 a1 a2 g n K=Xg Tryz.prog C Z8 [a0,a1,a2] g n K:=by kernel_rfl
def QaQ (C:CT) (a0:Value) (g:G) (n:Nat) (K:Cont):Prop:=
Xb .ptr .eql a0 (.pointer none) fun v4=>
Qa v4 (
Xc K (.slice none 0 0) g n) (
Jm a0 fun v6=>
Jd v6 fun l7 o7=>
kLd g l7 (o7+0) fun v8=>
C XD [v8] g n fun v9 g1 n9=>
Xc K v9 g1 n9)
theorem Zbo (C:CT) (a0:Value) (g:G) (n:Nat) (K:Cont):QaQ C a0 g n K=Xg Tryz.prog C J8 [a0] g n K:=by kernel_rfl
def QaO (C:CT) (a0 a1:Value) (g:G) (n:Nat) (K:Cont):Prop:=
Jm a0 fun v6=>
Jd v6 fun l7 o7=>
kLd g l7 (o7+8) fun v8=>
Zc v8 a1 15 fun v10=>
Jd v10 fun l11 o11=>
kLd g l11 (o11+1) fun v12=>
kUn .not v12 fun v13=>
Qa v13 (
Xc K (.int .i64 0) g n) (
Jm a0 fun v15=>
Jd v15 fun l16 o16=>
kLd g l16 (o16+9) fun v17=>
Jm a0 fun v20=>
Jd v20 fun l21 o21=>
kLd g l21 (o21+8) fun v22=>
Zc v22 a1 15 fun v24=>
Jd v24 fun l25 o25=>
Xl g l25 (o25+2) 8 fun c26=>
C Zq [v17,a1,.agg c26.toArray] g n fun v27 g1 n27=>
Xc K v27 g1 n27)
theorem Xbo (C:CT) (a0 a1:Value) (g:G) (n:Nat) (K:Cont):QaO C a0 a1 g n K=Xg Tryz.prog C QN [a0,a1] g n K:=by kernel_rfl
def ZaJ (C:CT) (a0 a1:Value) (g:G) (n:Nat) (K:Cont):Prop:=
Xb .ptr .eql a0 (.pointer none) fun v8=>
Qa v8 (
Xc K (.tuple #[.slice none 0 0,.int .i64 1]) g n) (
C QT [a0] g n fun v10 g1 n10=>
kUn .not v10 fun v11=>
Qa v11 (
Xc K (.tuple #[.slice none 0 0,.int .i64 15]) g1 n10) (
C Zm [a0,a1] g1 n10 fun v14 g2 n14=>
Qv [.int .i64 0,.int .i64 0,.int .u64 0,.int .u64 0,.int .u64 0,.int .u64 0,.int .u64 0,.int .u64 0,.int .u64 0,.int .u64 0,.int .i64 0] .exact g2 n14 fun l6 g3 n6=>
Jl v14 fun cg4=>
cg4.length=11∧Qs g3 l6 0 cg4 fun g4=>
kLd g4 l6 (0+0) fun v16=>
Xb .int .eql v16 (.int .i64 0) fun v17=>
Qa v17 (
Xc K (.tuple #[.slice none 0 0,.int .i64 14]) g4 n6) (
Xl g4 l6 0 11 fun c19=>
C ZK [a0,.agg c19.toArray] g4 n6 fun v20 g5 n20=>
Xc K (.tuple #[v20,.int .i64 0]) g5 n20)))
theorem Jbl (C:CT) (a0 a1:Value) (g:G) (n:Nat) (K:Cont):ZaJ C a0 a1 g n K=Xg Tryz.prog C X9 [a0,a1] g n K:=by kernel_rfl
def XaM (C:CT) (K:Cont) (t:Env) (g:G) (n:Nat):Prop:=
Jm (t 0) fun v26=>
Jd v26 fun l27 o27=>
kLd g l27 (o27+2) fun v28=>
J9 v28 [.int .i64 0,.int .u64 0,.int .u64 0,.int .u64 0,.int .u64 0,.int .u64 0,.int .u64 0,.int .u64 0,.int .u64 0] g fun v_ g4=>
Jm (t 0) fun v31=>
Jd v31 fun l32 o32=>
kLd g4 l32 (o32+2) fun v33=>
Xr v33 none (some (.int .i64 0)) none 9 fun v34=>
Jm (t 0) fun v35=>
Jd v35 fun l36 o36=>
kSt g4 l36 (o36+2) v34 fun g5=>
Jm (t 0) fun v38=>
Jd v38 fun l39 o39=>
kLd g5 l39 (o39+0) fun v40=>
C Qw [v40] g5 n fun v41 g6 n41=>
Xc K (.tuple #[]) g6 n41
def QaJ (C:CT) (K:Cont) (I_l1:Zi) (t:Env) (g:G) (n:Nat):Prop:=
Xb .int .lss (t 11) (t 10) fun v12=>
Qa v12 (
Zc (t 9) (t 11) 9 fun v13=>
Jd v13 fun l14 o14=>
Xl g l14 o14 9 fun c14=>
Qv [.int .i64 0,.int .u64 0,.int .u64 0,.int .u64 0,.int .u64 0,.int .u64 0,.int .u64 0,.int .u64 0,.int .u64 0] .exact g n fun l3 g1 n3=>
Jl (.agg c14.toArray) fun cg2=>
cg2.length=9∧Qs g1 l3 0 cg2 fun g2=>
Jm (t 0) fun v16=>
Jd v16 fun l17 o17=>
kLd g2 l17 (o17+0) fun v18=>
kLd g2 l3 (0+0) fun v20=>
Xl g2 l3 (0+1) 8 fun c22=>
C ZT [v18,v20,.agg c22.toArray] g2 n3 fun v23 g3 n23=>
Xb .int .add (t 11) (.int .i64 1) fun v24=>
I_l1 (puts t [(12,v12),(13,v13),(14,.agg c14.toArray),(3,ptr l3 0),(15,t 0),(16,v16),(17,(ptr l17 (o17+0))),(18,v18),(19,(ptr l3 (0+0))),(20,v20),(21,(ptr l3 (0+1))),(22,.agg c22.toArray),(23,v23),(24,v24),(11,v24)]) g3 n23) (
XaM C K (puts t [(12,v12)]) g n)
def Qbq (C:CT) (a0:Value) (g:G) (n:Nat) (K:Cont):Prop:=
Xb .ptr .eql a0 (.pointer none) fun v5=>
Qa v5 (
Xc K (.tuple #[]) g n) (
Jm a0 fun v7=>
Jd v7 fun l8 o8=>
kLd g l8 (o8+2) fun v9=>
JaF v9 fun v10=>
lfp (QaJ C K) (puts (Jq [a0]) [(4,a0),(5,v5),(6,a0),(7,v7),(8,(ptr l8 (o8+2))),(9,v9),(10,v10),(11,.int .i64 0)]) g n)
theorem QbQ (C:CT) (a0:Value) (g:G) (n:Nat) (K:Cont):Qbq C a0 g n K=Xg Tryz.prog C Qam [a0] g n K:=by kernel_rfl
def QaI (C:CT) (a0 a1 a2 a3:Value) (g:G) (n:Nat) (K:Cont):Prop:=
Xb .ptr .eql a0 (.pointer none) fun v12=>
Qa v12 (
Xc K (.tuple #[.bool false,.slice none 0 0]) g n) (
C Jaz [a1,a2] g n fun v16 g1 n16=>
kUn .not v16 fun v17=>
Qa v17 (
Xc K (.tuple #[.bool false,.slice none 0 0]) g1 n16) (
C ZG [a0,a1] g1 n16 fun v21 g2 n21=>
kUn .not v21 fun v22=>
Qa v22 (
C ZO [a0,a1] g2 n21 fun v25 g3 n25=>
Xc K (.tuple #[.bool false,v25]) g3 n25) (
C Zm [a0,a1] g2 n21 fun v28 g4 n28=>
Qv [.int .i64 0,.int .i64 0,.int .u64 0,.int .u64 0,.int .u64 0,.int .u64 0,.int .u64 0,.int .u64 0,.int .u64 0,.int .u64 0,.int .i64 0] .exact g4 n28 fun l10 g5 n10=>
Jl v28 fun cg6=>
cg6.length=11∧Qs g5 l10 0 cg6 fun g6=>
ZH (ptr l10 (0+2)) a2 8 1 fun v32=>
Jd v32 fun lg7 og7=>
kSt g6 lg7 og7 a3 fun g7=>
Jm a0 fun v34=>
Jd v34 fun l35 o35=>
kLd g7 l35 (o35+0) fun v36=>
Xl g7 l10 (0+2) 8 fun c39=>
C JB [v36,a1,.int .i64 3,.agg c39.toArray] g7 n10 fun v40 g8 n40=>
Xc K (.tuple #[.bool true,.slice none 0 0]) g8 n40)))
theorem Xbm (C:CT) (a0 a1 a2 a3:Value) (g:G) (n:Nat) (K:Cont):QaI C a0 a1 a2 a3 g n K=Xg Tryz.prog C Q8 [a0,a1,a2,a3] g n K:=by kernel_rfl
def Qbr (C:CT) (a0:Value) (g:G) (n:Nat) (K:Cont):Prop:=
Qv [.int .i64 0,.int .i64 0,.bool false,.bool false,.int .u64 0,.int .u64 0,.int .u64 0,.int .u64 0,.int .u64 0,.int .u64 0,.int .u64 0,.int .u64 0] .exact g n fun l2 g1 n2=>
C Qac [a0] g1 n2 fun v5 g2 n5=>
Xb .int .eql v5 (.int .i64 0) fun v6=>
Qa v6 (
Jh [.int .i64 0,.int .i64 0,.bool false,.bool false,.int .u64 0,.int .u64 0,.int .u64 0,.int .u64 0,.int .u64 0,.int .u64 0,.int .u64 0,.int .u64 0] [] fun c7=>
Jl (.agg c7.toArray) fun cg3=>
cg3.length=12∧Qs g2 l2 0 cg3 fun g3=>
Xl g3 l2 0 12 fun r0=>
Xc K (.tuple #[.agg r0.toArray,.bool false]) g3 n5) (
Jm a0 fun v9=>
Jd v9 fun l10 o10=>
kLd g2 l10 (o10+0) fun v11=>
Zc v11 (.int .i64 0) 12 fun v12=>
Jd v12 fun l13 o13=>
Xl g2 l13 o13 12 fun c13=>
Jl (.agg c13.toArray) fun cg4=>
cg4.length=12∧Qs g2 l2 0 cg4 fun g4=>
Xl g4 l2 0 12 fun r0=>
Xc K (.tuple #[.agg r0.toArray,.bool true]) g4 n5)
theorem ZbR (C:CT) (a0:Value) (g:G) (n:Nat) (K:Cont):Qbr C a0 g n K=Xg Tryz.prog C XQ [a0] g n K:=by kernel_rfl
def Za4 (C:CT) (a0 a1:Value) (g:G) (n:Nat) (K:Cont):Prop:=
Jm a0 fun v6=>
Jd v6 fun l7 o7=>
kLd g l7 (o7+8) fun v8=>
Zc v8 a1 15 fun v10=>
Jm v10 fun v12=>
Jd v12 fun l13 o13=>
kLd g l13 (o13+0) fun v14=>
kUn .not v14 fun v15=>
Qa v15 (
Jm a0 fun v19=>
Jd v19 fun l20 o20=>
kLd g l20 (o20+9) fun v21=>
C XaK [v21,a1] g n fun v23 g1 n23=>
Zd v23 0 fun v24=>
Zd v23 1 fun v25=>
Jm v10 fun v26=>
Jd v26 fun l27 o27=>
Jl v24 fun cg2=>
cg2.length=8∧Qs g1 l27 (o27+2) cg2 fun g2=>
Jm v10 fun v29=>
Jd v29 fun l30 o30=>
kSt g2 l30 (o30+0) (.bool true) fun g3=>
Xc K (.tuple #[]) g3 n23) (
Xc K (.tuple #[]) g n)
theorem Jbz (C:CT) (a0 a1:Value) (g:G) (n:Nat) (K:Cont):Za4 C a0 a1 g n K=Xg Tryz.prog C Qaf [a0,a1] g n K:=by kernel_rfl
def QeH (C:CT) (a0 a1 a2:Value) (g:G) (n:Nat) (K:Cont):Prop:=
Jl a0 fun c3=>
Qv c3 .exact g n fun l3 g1 n3=>
Jl a2 fun c5=>
Qv c5 .exact g1 n3 fun l5 g2 n5=>
Qv [.bool false,.bool false,.int .u64 0,.int .u64 0,.int .u64 0,.int .u64 0,.int .u64 0,.int .u64 0,.int .u64 0,.int .u64 0,.int .i64 0,.int .u8 0,.int .i64 0,.int .i64 0,.int .u8 0] .exact g2 n5 fun l6 g3 n6=>
Xl g3 l3 0 15 fun c11=>
C JaB [.agg c11.toArray] g3 n6 fun v12 g4 n12=>
kUn .not v12 fun v13=>
Qa v13 (
Jh [.bool false,.bool false,.int .u64 0,.int .u64 0,.int .u64 0,.int .u64 0,.int .u64 0,.int .u64 0,.int .u64 0,.int .u64 0,.int .i64 0,.int .u8 0,.int .i64 0,.int .i64 0,.int .u8 0] [] fun c30=>
Jl (.agg c30.toArray) fun cg5=>
cg5.length=15∧Qs g4 l6 0 cg5 fun g5=>
Xl g5 l6 0 15 fun r0=>
Xc K (.tuple #[.agg r0.toArray,.slice none 0 0,.int .i64 1]) g5 n12) (
C Zam [a1] g4 n12 fun v16 g6 n16=>
kUn .not v16 fun v17=>
Qa v17 (
Jh [.bool false,.bool false,.int .u64 0,.int .u64 0,.int .u64 0,.int .u64 0,.int .u64 0,.int .u64 0,.int .u64 0,.int .u64 0,.int .i64 0,.int .u8 0,.int .i64 0,.int .i64 0,.int .u8 0] [] fun c30=>
Jl (.agg c30.toArray) fun cg7=>
cg7.length=15∧Qs g6 l6 0 cg7 fun g7=>
Xl g7 l6 0 15 fun r0=>
Xc K (.tuple #[.agg r0.toArray,.slice none 0 0,.int .i64 1]) g7 n16) (
Xl g6 l5 0 12 fun c20=>
C Qao [.agg c20.toArray] g6 n16 fun v21 g8 n21=>
kUn .not v21 fun v22=>
Qa v22 (
Jh [.bool false,.bool false,.int .u64 0,.int .u64 0,.int .u64 0,.int .u64 0,.int .u64 0,.int .u64 0,.int .u64 0,.int .u64 0,.int .i64 0,.int .u8 0,.int .i64 0,.int .i64 0,.int .u8 0] [] fun c30=>
Jl (.agg c30.toArray) fun cg9=>
cg9.length=15∧Qs g8 l6 0 cg9 fun g9=>
Xl g9 l6 0 15 fun r0=>
Xc K (.tuple #[.agg r0.toArray,.slice none 0 0,.int .i64 1]) g9 n21) (
kLd g8 l5 (0+0) fun v26=>
C Jbv [v26] g8 n21 fun v27 g10 n27=>
kUn .not v27 fun v28=>
Qa v28 (
Jh [.bool false,.bool false,.int .u64 0,.int .u64 0,.int .u64 0,.int .u64 0,.int .u64 0,.int .u64 0,.int .u64 0,.int .u64 0,.int .i64 0,.int .u8 0,.int .i64 0,.int .i64 0,.int .u8 0] [] fun c30=>
Jl (.agg c30.toArray) fun cg11=>
cg11.length=15∧Qs g10 l6 0 cg11 fun g11=>
Xl g11 l6 0 15 fun r0=>
Xc K (.tuple #[.agg r0.toArray,.slice none 0 0,.int .i64 1]) g11 n27) (
kLd g10 l3 (0+12) fun v33=>
Xb .int .neq v33 (.int .i64 0) fun v34=>
Qa v34 (
Jh [.bool false,.bool false,.int .u64 0,.int .u64 0,.int .u64 0,.int .u64 0,.int .u64 0,.int .u64 0,.int .u64 0,.int .u64 0,.int .i64 0,.int .u8 0,.int .i64 0,.int .i64 0,.int .u8 0] [] fun c35=>
Jl (.agg c35.toArray) fun cg12=>
cg12.length=15∧Qs g10 l6 0 cg12 fun g12=>
Xl g12 l6 0 15 fun r0=>
Xc K (.tuple #[.agg r0.toArray,.slice none 0 0,.int .i64 15]) g12 n27) (
kLd g10 l3 (0+0) fun v38=>
kUn .not v38 fun v39=>
Qa v39 (
Jh [.bool false,.bool false,.int .u64 0,.int .u64 0,.int .u64 0,.int .u64 0,.int .u64 0,.int .u64 0,.int .u64 0,.int .u64 0,.int .i64 0,.int .u8 0,.int .i64 0,.int .i64 0,.int .u8 0] [] fun c40=>
Jl (.agg c40.toArray) fun cg13=>
cg13.length=15∧Qs g10 l6 0 cg13 fun g13=>
Xl g13 l6 0 15 fun r0=>
Xc K (.tuple #[.agg r0.toArray,.slice none 0 0,.int .i64 16]) g13 n27) (
Xl g10 l3 0 15 fun c41=>
kLd g10 l5 (0+1) fun v43=>
Jh [.bool false,.bool false,.int .u64 0,.int .u64 0,.int .u64 0,.int .u64 0,.int .u64 0,.int .u64 0,.int .u64 0,.int .u64 0,.int .i64 0,.int .u8 0,.int .i64 0,.int .i64 0,.int .u8 0,.int .i64 0,.slice none 0 0] [(0,some 15,.agg c41.toArray),(15,none,v43)] fun c44=>
Jl (.agg c44.toArray) fun c45=>
Qv c45 .exact g10 n27 fun l45 g14 n45=>
kLd g14 l5 (0+0) fun v48=>
Xl g14 l5 0 12 fun c52=>
C Jbw [] g14 n45 fun v46 g15 n46=>
(Jd (ptr l5 (0+0)) fun l _=>g15 l=g14 l)∧(Jd (ptr l5 0) fun l _=>g15 l=g14 l)∧Qc4 v46 v48 6 1 none fun v49=>
Qa8 C v49 [ptr l45 0,a1,.agg c52.toArray] g15 n46 fun v53 g16 n53=>
Xl g16 l45 (0+0) 15 fun c57=>
kLd g16 l45 (0+16) fun v61=>
Jl (.agg c57.toArray) fun cg17=>
cg17.length=15∧Qs g16 l6 0 cg17 fun g17=>
(Jd (ptr l45 (0+16)) fun l _=>g17 l=g16 l)∧Xl g17 l6 0 15 fun r0=>
Xc K (.tuple #[.agg r0.toArray,v61,.int .i64 0]) g17 n53))))))
theorem Zec (C:CT) (a0 a1 a2:Value) (g:G) (n:Nat) (K:Cont):QeH C a0 a1 a2 g n K=Xg Tryz.prog C Zbh [a0,a1,a2] g n K:=by kernel_rfl
def Xac (C:CT) (K:Cont) (t:Env) (g:G) (n:Nat):Prop:=
Jd (t 4) fun l20 o20=>
Xl g l20 o20 12 fun c20=>
Jd (t 2) fun lg6 og6=>
Jl (.agg c20.toArray) fun cg6=>
cg6.length=12∧Qs g lg6 og6 cg6 fun g6=>
Jd (t 2) fun lr0 or0=>
Xl g6 lr0 or0 12 fun r0=>
Xc K (.tuple #[.agg r0.toArray,t 5]) g6 n
def JbE (C:CT) (a0:Value) (g:G) (n:Nat) (K:Cont):Prop:=
Qv [.int .i64 0,.int .i64 0,.bool false,.bool false,.int .u64 0,.int .u64 0,.int .u64 0,.int .u64 0,.int .u64 0,.int .u64 0,.int .u64 0,.int .u64 0] .exact g n fun l2 g1 n2=>
C XQ [a0] g1 n2 fun v8 g2 n8=>
Zd v8 0 fun v9=>
Zd v8 1 fun v10=>
Qv [.int .i64 0,.int .i64 0,.bool false,.bool false,.int .u64 0,.int .u64 0,.int .u64 0,.int .u64 0,.int .u64 0,.int .u64 0,.int .u64 0,.int .u64 0] .exact g2 n8 fun l4 g3 n4=>
Jl v9 fun cg4=>
cg4.length=12∧Qs g3 l4 0 cg4 fun g4=>
Qa v10 (
Jm a0 fun v14=>
Jd v14 fun l15 o15=>
kLd g4 l15 (o15+0) fun v16=>
Xr v16 (some (.int .i64 1)) none none 12 fun v17=>
Jm a0 fun v18=>
Jd v18 fun l19 o19=>
kSt g4 l19 (o19+0) v17 fun g5=>
Xac C K (puts (Jq [a0]) [(2,ptr l2 0),(3,.bool false),(7,a0),(8,v8),(6,v8),(9,v9),(10,v10),(4,ptr l4 0),(5,v10),(11,v10),(12,a0),(13,a0),(14,v14),(15,(ptr l15 (o15+0))),(16,v16),(17,v17),(18,v18),(19,(ptr l19 (o19+0)))]) g5 n4) (
Xac C K (puts (Jq [a0]) [(2,ptr l2 0),(3,.bool false),(7,a0),(8,v8),(6,v8),(9,v9),(10,v10),(4,ptr l4 0),(5,v10),(11,v10)]) g4 n4)
theorem Jb5 (C:CT) (a0:Value) (g:G) (n:Nat) (K:Cont):JbE C a0 g n K=Xg Tryz.prog C Qr [a0] g n K:=by kernel_rfl
def Qas (C:CT) (K:Cont) (I_l1:Zi) (t:Env) (g:G) (n:Nat):Prop:=
Xb .int .lss (t 11) (t 10) fun v12=>
Qa v12 (
Zc (t 9) (t 11) 13 fun v13=>
Jd v13 fun l14 o14=>
Xl g l14 o14 13 fun c14=>
Qv [.int .i64 0,.int .i64 0,.int .i64 0,.bool false,.bool false,.int .u64 0,.int .u64 0,.int .u64 0,.int .u64 0,.int .u64 0,.int .u64 0,.int .u64 0,.int .u64 0] .exact g n fun l7 g1 n7=>
Jl (.agg c14.toArray) fun cg2=>
cg2.length=13∧Qs g1 l7 0 cg2 fun g2=>
kSt g2 l7 (0+1+1) (t 2) fun g3=>
kLd g3 l7 (0+0) fun v20=>
C Xk [t 0,v20] g3 n7 fun v21 g4 n21=>
Xb .ptr .neq v21 (.pointer none) fun v23=>
Qa v23 (
Jm v21 fun v25=>
Jd v25 fun l26 o26=>
Xl g4 l7 (0+1) 12 fun c28=>
C Zn [(ptr l26 (o26+3)),.agg c28.toArray] g4 n21 fun v29 g5 n29=>
Xb .int .add (t 11) (.int .i64 1) fun v30=>
I_l1 (puts t [(12,v12),(13,v13),(14,.agg c14.toArray),(7,ptr l7 0),(15,t 2),(16,(ptr l7 (0+1))),(17,(ptr l7 (0+1+1))),(18,t 0),(19,(ptr l7 (0+0))),(20,v20),(21,v21),(8,v21),(22,v21),(23,v23),(24,v21),(25,v25),(26,(ptr l26 (o26+3))),(27,(ptr l7 (0+1))),(28,.agg c28.toArray),(29,v29),(30,v30),(11,v30)]) g5 n29) (
Xb .int .add (t 11) (.int .i64 1) fun v30=>
I_l1 (puts t [(12,v12),(13,v13),(14,.agg c14.toArray),(7,ptr l7 0),(15,t 2),(16,(ptr l7 (0+1))),(17,(ptr l7 (0+1+1))),(18,t 0),(19,(ptr l7 (0+0))),(20,v20),(21,v21),(8,v21),(22,v21),(23,v23),(30,v30),(11,v30)]) g4 n21)) (
Xc K (.tuple #[]) g n)
def QaN (C:CT) (a0 a1 a2:Value) (g:G) (n:Nat) (K:Cont):Prop:=
JaF a1 fun v10=>
lfp (Qas C K) (puts (Jq [a0,a1,a2]) [(9,a1),(10,v10),(11,.int .i64 0)]) g n
theorem Qbp (C:CT) (a0 a1 a2:Value) (g:G) (n:Nat) (K:Cont):QaN C a0 a1 a2 g n K=Xg Tryz.prog C Qk [a0,a1,a2] g n K:=by kernel_rfl
def ZU (C:CT) (K:Cont) (t:Env) (g:G) (n:Nat):Prop:=
Jm (t 0) fun v66=>
Jd v66 fun l67 o67=>
kLd g l67 (o67+0) fun v68=>
Jd (t 3) fun l69 o69=>
kLd g l69 (o69+1) fun v70=>
Jd (t 8) fun l72 o72=>
Xl g l72 o72 8 fun c72=>
C JB [v68,v70,t 7,.agg c72.toArray] g n fun v73 g14 n73=>
Jd (t 3) fun l74 o74=>
Xl g14 l74 o74 12 fun c74=>
Jd (t 6) fun l75 o75=>
Xl g14 l75 o75 11 fun c75=>
C Zak [.agg c74.toArray,.agg c75.toArray,t 7] g14 n73 fun v77 g15 n77=>
Xc K (.tuple #[v77,.int .i64 0]) g15 n77
def XG (C:CT) (K:Cont) (t:Env) (g:G) (n:Nat):Prop:=
Qa (t 59) (
Jd (t 3) fun l63 o63=>
Xl g l63 (o63+4) 8 fun c64=>
Jd (t 8) fun lg13 og13=>
Jl (.agg c64.toArray) fun cg13=>
cg13.length=8∧Qs g lg13 og13 cg13 fun g13=>
ZU C K (puts t [(63,(ptr l63 (o63+4))),(64,.agg c64.toArray)]) g13 n) (
ZU C K t g n)
def JT (C:CT) (K:Cont) (t:Env) (g:G) (n:Nat):Prop:=
Jd (t 3) fun l57 o57=>
kLd g l57 (o57+0) fun v58=>
Xb .int .eql v58 (.int .i64 8) fun v60=>
Qa v60 (
XG C K (puts t [(57,(ptr l57 (o57+0))),(58,v58),(60,v60),(59,v60)]) g n) (
Xb .int .eql v58 (.int .i64 9) fun v61=>
Qa v61 (
XG C K (puts t [(57,(ptr l57 (o57+0))),(58,v58),(60,v60),(59,v60),(61,v61),(59,v61)]) g n) (
Xb .int .eql v58 (.int .i64 10) fun v62=>
XG C K (puts t [(57,(ptr l57 (o57+0))),(58,v58),(60,v60),(59,v60),(61,v61),(59,v61),(62,v62),(59,v62)]) g n))
def JU (C:CT) (K:Cont) (t:Env) (g:G) (n:Nat):Prop:=
Qa (t 53) (
Jh [.int .u64 0,.int .u64 0,.int .u64 0,.int .u64 0,.int .u64 0,.int .u64 0,.int .u64 0,.int .u64 0] [] fun c56=>
Jd (t 8) fun lg12 og12=>
Jl (.agg c56.toArray) fun cg12=>
cg12.length=8∧Qs g lg12 og12 cg12 fun g12=>
JT C K (puts t [(56,.agg c56.toArray)]) g12 n) (
JT C K t g n)
def Za2 (C:CT) (a0 a1:Value) (g:G) (n:Nat) (K:Cont):Prop:=
Jl a1 fun c3=>
Qv c3 .exact g n fun l3 g1 n3=>
Xb .ptr .eql a0 (.pointer none) fun v10=>
Qa v10 (
Xc K (.tuple #[.slice none 0 0,.int .i64 1]) g1 n3) (
Xl g1 l3 0 12 fun c12=>
C Qao [.agg c12.toArray] g1 n3 fun v13 g2 n13=>
kUn .not v13 fun v14=>
Qa v14 (
Xc K (.tuple #[.slice none 0 0,.int .i64 1]) g2 n13) (
kLd g2 l3 (0+0) fun v18=>
C Xa6 [v18] g2 n13 fun v19 g3 n19=>
kUn .not v19 fun v20=>
Qa v20 (
Xc K (.tuple #[.slice none 0 0,.int .i64 1]) g3 n19) (
kLd g3 l3 (0+1) fun v24=>
C Zm [a0,v24] g3 n19 fun v25 g4 n25=>
Qv [.int .i64 0,.int .i64 0,.int .u64 0,.int .u64 0,.int .u64 0,.int .u64 0,.int .u64 0,.int .u64 0,.int .u64 0,.int .u64 0,.int .i64 0] .exact g4 n25 fun l6 g5 n6=>
Jl v25 fun cg6=>
cg6.length=11∧Qs g5 l6 0 cg6 fun g6=>
kLd g6 l3 (0+0) fun v28=>
kLd g6 l6 (0+0) fun v31=>
C Xbr [] g6 n6 fun v26 g7 n26=>
(Jd (ptr l3 (0+0)) fun l _=>g7 l=g6 l)∧(Jd (ptr l6 (0+0)) fun l _=>g7 l=g6 l)∧Qc4 v26 v28 15 10 (some 10) fun v29=>
Qc4 v29 v31 10 1 none fun v32=>
Xl g7 l6 (0+2) 8 fun c34=>
Qv [.int .u64 0,.int .u64 0,.int .u64 0,.int .u64 0,.int .u64 0,.int .u64 0,.int .u64 0,.int .u64 0] .exact g7 n26 fun l8 g8 n8=>
Jl (.agg c34.toArray) fun cg9=>
cg9.length=8∧Qs g8 l8 0 cg9 fun g9=>
Xb .int .eql v32 (.int .i64 (-1)) fun v37=>
Qa v37 (
Xc K (.tuple #[.slice none 0 0,.int .i64 16]) g9 n8) (
Xb .int .eql v32 (.int .i64 (-2)) fun v39=>
Qa v39 (
Xc K (.tuple #[.slice none 0 0,.int .i64 0]) g9 n8) (
Xb .int .eql v32 (.int .i64 0) fun v41=>
Qa v41 (
Jm a0 fun v43=>
Jd v43 fun l44 o44=>
kLd g9 l44 (o44+0) fun v45=>
kLd g9 l3 (0+1) fun v47=>
C Xaf [v45,v47] g9 n8 fun v48 g10 n48=>
Xl g10 l3 0 12 fun c49=>
Xl g10 l6 0 11 fun c50=>
C Zak [.agg c49.toArray,.agg c50.toArray,v32] g10 n48 fun v52 g11 n52=>
Xc K (.tuple #[v52,.int .i64 0]) g11 n52) (
Xb .int .eql v32 (.int .i64 5) fun v54=>
Qa v54 (
JU C K (puts (Jq [a0,a1]) [(3,ptr l3 0),(4,.slice none 0 0),(5,.int .i64 0),(9,a0),(10,v10),(11,.bool false),(12,.agg c12.toArray),(13,v13),(14,v14),(15,v14),(16,.bool false),(17,(ptr l3 (0+0))),(18,v18),(19,v19),(20,v20),(21,v20),(22,a0),(23,(ptr l3 (0+1))),(24,v24),(25,v25),(6,ptr l6 0),(27,(ptr l3 (0+0))),(28,v28),(30,(ptr l6 (0+0))),(31,v31),(26,v26),(29,v29),(32,v32),(7,v32),(33,(ptr l6 (0+2))),(34,.agg c34.toArray),(8,ptr l8 0),(35,v32),(37,v37),(36,v37),(39,v39),(38,v39),(41,v41),(40,v41),(54,v54),(53,v54)]) g9 n8) (
Xb .int .eql v32 (.int .i64 8) fun v55=>
JU C K (puts (Jq [a0,a1]) [(3,ptr l3 0),(4,.slice none 0 0),(5,.int .i64 0),(9,a0),(10,v10),(11,.bool false),(12,.agg c12.toArray),(13,v13),(14,v14),(15,v14),(16,.bool false),(17,(ptr l3 (0+0))),(18,v18),(19,v19),(20,v20),(21,v20),(22,a0),(23,(ptr l3 (0+1))),(24,v24),(25,v25),(6,ptr l6 0),(27,(ptr l3 (0+0))),(28,v28),(30,(ptr l6 (0+0))),(31,v31),(26,v26),(29,v29),(32,v32),(7,v32),(33,(ptr l6 (0+2))),(34,.agg c34.toArray),(8,ptr l8 0),(35,v32),(37,v37),(36,v37),(39,v39),(38,v39),(41,v41),(40,v41),(54,v54),(53,v54),(55,v55),(53,v55)]) g9 n8)))))))
theorem Xbz (C:CT) (a0 a1:Value) (g:G) (n:Nat) (K:Cont):Za2 C a0 a1 g n K=Xg Tryz.prog C Xae [a0,a1] g n K:=by kernel_rfl
def Qal (C:CT) (K:Cont) (t:Env) (g:G) (n:Nat):Prop:=
Jm (t 9) fun v133=>
Jd v133 fun l134 o134=>
Xl g l134 (o134+0) 15 fun c135=>
Jm (t 9) fun v137=>
Jd v137 fun l138 o138=>
kLd g l138 (o138+16) fun v139=>
Jd (t 6) fun lg27 og27=>
Jl (.agg c135.toArray) fun cg27=>
cg27.length=15∧Qs g lg27 og27 cg27 fun g27=>
(Jd (ptr l138 (o138+16)) fun l _=>g27 l=g l)∧Jd (t 6) fun lr0 or0=>
Xl g27 lr0 or0 15 fun r0=>
Xc K (.tuple #[.agg r0.toArray,v139,.int .i64 0]) g27 n
def Jat (C:CT) (K:Cont) (t:Env) (g:G) (n:Nat):Prop:=
Jm (t 9) fun v99=>
Jd v99 fun l100 o100=>
kLd g l100 (o100+0+14) fun v102=>
Xb .int .neq v102 (.int .u8 0) fun v103=>
Qa v103 (
Jm (t 9) fun v105=>
Jd v105 fun l106 o106=>
Xl g l106 (o106+0) 15 fun c107=>
Jd (t 6) fun lg24 og24=>
Jl (.agg c107.toArray) fun cg24=>
cg24.length=15∧Qs g lg24 og24 cg24 fun g24=>
Jd (t 6) fun lr0 or0=>
Xl g24 lr0 or0 15 fun r0=>
Xc K (.tuple #[.agg r0.toArray,.slice none 0 0,.int .i64 0]) g24 n) (
Jm (t 9) fun v109=>
Jd v109 fun l110 o110=>
kLd g l110 (o110+0+13) fun v112=>
Jm (t 9) fun v114=>
Jd v114 fun l115 o115=>
kLd g l115 (o115+0+12) fun v117=>
Xb .int .eql v117 (.int .i64 1) fun v119=>
Qa v119 (
C JW [t 9] g n fun v121 g25 n121=>
C ZW [t 9,v112] g25 n121 fun v124 g26 n124=>
Qal C K (puts t [(98,t 9),(99,v99),(100,(ptr l100 (o100+0))),(101,(ptr l100 (o100+0+14))),(102,v102),(103,v103),(108,t 9),(109,v109),(110,(ptr l110 (o110+0))),(111,(ptr l110 (o110+0+13))),(112,v112),(10,v112),(113,t 9),(114,v114),(115,(ptr l115 (o115+0))),(116,(ptr l115 (o115+0+12))),(117,v117),(119,v119),(118,v119),(120,t 9),(121,v121),(122,t 9),(123,v112),(124,v124)]) g26 n124) (
Xb .int .eql v117 (.int .i64 2) fun v126=>
Qa v126 (
C JW [t 9] g n fun v128 g28 n128=>
C JO [t 9,v112,.int .i64 10] g28 n128 fun v131 g29 n131=>
Qal C K (puts t [(98,t 9),(99,v99),(100,(ptr l100 (o100+0))),(101,(ptr l100 (o100+0+14))),(102,v102),(103,v103),(108,t 9),(109,v109),(110,(ptr l110 (o110+0))),(111,(ptr l110 (o110+0+13))),(112,v112),(10,v112),(113,t 9),(114,v114),(115,(ptr l115 (o115+0))),(116,(ptr l115 (o115+0+12))),(117,v117),(119,v119),(118,v119),(126,v126),(125,v126),(127,t 9),(128,v128),(129,t 9),(130,v112),(131,v131)]) g29 n131) (
Qal C K (puts t [(98,t 9),(99,v99),(100,(ptr l100 (o100+0))),(101,(ptr l100 (o100+0+14))),(102,v102),(103,v103),(108,t 9),(109,v109),(110,(ptr l110 (o110+0))),(111,(ptr l110 (o110+0+13))),(112,v112),(10,v112),(113,t 9),(114,v114),(115,(ptr l115 (o115+0))),(116,(ptr l115 (o115+0+12))),(117,v117),(119,v119),(118,v119),(126,v126),(125,v126)]) g n)))
def Zav (C:CT) (K:Cont) (t:Env) (g:G) (n:Nat):Prop:=
Jm (t 9) fun v75=>
Jd v75 fun l76 o76=>
kLd g l76 (o76+0+11) fun v78=>
C Qq [t 1] g n fun v80 g20 n80=>
(Jd (ptr l76 (o76+0+11)) fun l _=>g20 l=g l)∧Xb .int .andNot v78 v80 fun v81=>
Jm (t 9) fun v82=>
Jd v82 fun l83 o83=>
kSt g20 l83 (o83+0+11) v81 fun g21=>
Jd (t 5) fun l85 o85=>
kLd g21 l85 (o85+3) fun v86=>
Qa v86 (
Jm (t 9) fun v88=>
Jd v88 fun l89 o89=>
kLd g21 l89 (o89+0+11) fun v91=>
C Qq [t 1] g21 n80 fun v93 g22 n93=>
(Jd (ptr l89 (o89+0+11)) fun l _=>g22 l=g21 l)∧Xb .int .or v91 v93 fun v94=>
Jm (t 9) fun v95=>
Jd v95 fun l96 o96=>
kSt g22 l96 (o96+0+11) v94 fun g23=>
Jat C K (puts t [(74,t 9),(75,v75),(76,(ptr l76 (o76+0))),(77,(ptr l76 (o76+0+11))),(78,v78),(79,t 1),(80,v80),(81,v81),(82,v82),(83,(ptr l83 (o83+0))),(84,(ptr l83 (o83+0+11))),(85,(ptr l85 (o85+3))),(86,v86),(87,t 9),(88,v88),(89,(ptr l89 (o89+0))),(90,(ptr l89 (o89+0+11))),(91,v91),(92,t 1),(93,v93),(94,v94),(95,v95),(96,(ptr l96 (o96+0))),(97,(ptr l96 (o96+0+11)))]) g23 n93) (
Jat C K (puts t [(74,t 9),(75,v75),(76,(ptr l76 (o76+0))),(77,(ptr l76 (o76+0+11))),(78,v78),(79,t 1),(80,v80),(81,v81),(82,v82),(83,(ptr l83 (o83+0))),(84,(ptr l83 (o83+0+11))),(85,(ptr l85 (o85+3))),(86,v86)]) g21 n80)
def JcH (C:CT) (a0 a1 a2:Value) (g:G) (n:Nat) (K:Cont):Prop:=
Jl a0 fun c3=>
Qv c3 .exact g n fun l3 g1 n3=>
Jl a2 fun c5=>
Qv c5 .exact g1 n3 fun l5 g2 n5=>
Qv [.bool false,.bool false,.int .u64 0,.int .u64 0,.int .u64 0,.int .u64 0,.int .u64 0,.int .u64 0,.int .u64 0,.int .u64 0,.int .i64 0,.int .u8 0,.int .i64 0,.int .i64 0,.int .u8 0] .exact g2 n5 fun l6 g3 n6=>
Xl g3 l3 0 15 fun c12=>
C JaB [.agg c12.toArray] g3 n6 fun v13 g4 n13=>
kUn .not v13 fun v14=>
Qa v14 (
Jh [.bool false,.bool false,.int .u64 0,.int .u64 0,.int .u64 0,.int .u64 0,.int .u64 0,.int .u64 0,.int .u64 0,.int .u64 0,.int .i64 0,.int .u8 0,.int .i64 0,.int .i64 0,.int .u8 0] [] fun c31=>
Jl (.agg c31.toArray) fun cg5=>
cg5.length=15∧Qs g4 l6 0 cg5 fun g5=>
Xl g5 l6 0 15 fun r0=>
Xc K (.tuple #[.agg r0.toArray,.slice none 0 0,.int .i64 1]) g5 n13) (
C Zam [a1] g4 n13 fun v17 g6 n17=>
kUn .not v17 fun v18=>
Qa v18 (
Jh [.bool false,.bool false,.int .u64 0,.int .u64 0,.int .u64 0,.int .u64 0,.int .u64 0,.int .u64 0,.int .u64 0,.int .u64 0,.int .i64 0,.int .u8 0,.int .i64 0,.int .i64 0,.int .u8 0] [] fun c31=>
Jl (.agg c31.toArray) fun cg7=>
cg7.length=15∧Qs g6 l6 0 cg7 fun g7=>
Xl g7 l6 0 15 fun r0=>
Xc K (.tuple #[.agg r0.toArray,.slice none 0 0,.int .i64 1]) g7 n17) (
Xl g6 l5 0 12 fun c21=>
C Qao [.agg c21.toArray] g6 n17 fun v22 g8 n22=>
kUn .not v22 fun v23=>
Qa v23 (
Jh [.bool false,.bool false,.int .u64 0,.int .u64 0,.int .u64 0,.int .u64 0,.int .u64 0,.int .u64 0,.int .u64 0,.int .u64 0,.int .i64 0,.int .u8 0,.int .i64 0,.int .i64 0,.int .u8 0] [] fun c31=>
Jl (.agg c31.toArray) fun cg9=>
cg9.length=15∧Qs g8 l6 0 cg9 fun g9=>
Xl g9 l6 0 15 fun r0=>
Xc K (.tuple #[.agg r0.toArray,.slice none 0 0,.int .i64 1]) g9 n22) (
kLd g8 l5 (0+0) fun v27=>
C XaH [v27] g8 n22 fun v28 g10 n28=>
kUn .not v28 fun v29=>
Qa v29 (
Jh [.bool false,.bool false,.int .u64 0,.int .u64 0,.int .u64 0,.int .u64 0,.int .u64 0,.int .u64 0,.int .u64 0,.int .u64 0,.int .i64 0,.int .u8 0,.int .i64 0,.int .i64 0,.int .u8 0] [] fun c31=>
Jl (.agg c31.toArray) fun cg11=>
cg11.length=15∧Qs g10 l6 0 cg11 fun g11=>
Xl g11 l6 0 15 fun r0=>
Xc K (.tuple #[.agg r0.toArray,.slice none 0 0,.int .i64 1]) g11 n28) (
kLd g10 l3 (0+12) fun v34=>
Xb .int .eql v34 (.int .i64 0) fun v35=>
Qa v35 (
Jh [.bool false,.bool false,.int .u64 0,.int .u64 0,.int .u64 0,.int .u64 0,.int .u64 0,.int .u64 0,.int .u64 0,.int .u64 0,.int .i64 0,.int .u8 0,.int .i64 0,.int .i64 0,.int .u8 0] [] fun c43=>
Jl (.agg c43.toArray) fun cg12=>
cg12.length=15∧Qs g10 l6 0 cg12 fun g12=>
Xl g12 l6 0 15 fun r0=>
Xc K (.tuple #[.agg r0.toArray,.slice none 0 0,.int .i64 16]) g12 n28) (
kLd g10 l3 (0+14) fun v38=>
C JaR [v38,a1] g10 n28 fun v40 g13 n40=>
kUn .not v40 fun v41=>
Qa v41 (
Jh [.bool false,.bool false,.int .u64 0,.int .u64 0,.int .u64 0,.int .u64 0,.int .u64 0,.int .u64 0,.int .u64 0,.int .u64 0,.int .i64 0,.int .u8 0,.int .i64 0,.int .i64 0,.int .u8 0] [] fun c43=>
Jl (.agg c43.toArray) fun cg14=>
cg14.length=15∧Qs g13 l6 0 cg14 fun g14=>
Xl g14 l6 0 15 fun r0=>
Xc K (.tuple #[.agg r0.toArray,.slice none 0 0,.int .i64 16]) g14 n40) (
Xl g13 l3 0 15 fun c44=>
kLd g13 l5 (0+1) fun v46=>
Jh [.bool false,.bool false,.int .u64 0,.int .u64 0,.int .u64 0,.int .u64 0,.int .u64 0,.int .u64 0,.int .u64 0,.int .u64 0,.int .i64 0,.int .u8 0,.int .i64 0,.int .i64 0,.int .u8 0,.int .i64 0,.slice none 0 0] [(0,some 15,.agg c44.toArray),(15,none,v46)] fun c47=>
Jl (.agg c47.toArray) fun c48=>
Qv c48 .exact g13 n40 fun l48 g15 n48=>
kLd g15 l48 (0+0+14) fun v53=>
C Qq [a1] g15 n48 fun v55 g16 n55=>
(Jd (ptr l48 (0+0+14)) fun l _=>g16 l=g15 l)∧Xb .int .andNot v53 v55 fun v56=>
kSt g16 l48 (0+0+14) v56 fun g17=>
Xl g17 l5 0 12 fun c61=>
C Qab [ptr l48 0,.agg c61.toArray] g17 n55 fun v62 g18 n62=>
kLd g18 l48 (0+0+10) fun v67=>
Xb .int .eql v67 a1 fun v69=>
Qa v69 (
kSt g18 l48 (0+0+10) (.int .i64 (-1)) fun g19=>
Zav C K (puts (Jq [a0,a1,a2]) [(3,ptr l3 0),(5,ptr l5 0),(6,ptr l6 0),(7,.slice none 0 0),(8,.int .i64 0),(12,.agg c12.toArray),(13,v13),(14,v14),(15,.bool false),(16,a1),(17,v17),(18,v18),(19,v18),(20,.bool false),(21,.agg c21.toArray),(22,v22),(23,v23),(24,v23),(25,.bool false),(26,(ptr l5 (0+0))),(27,v27),(28,v28),(29,v29),(30,v29),(11,v29),(33,(ptr l3 (0+12))),(34,v34),(35,v35),(36,.bool false),(37,(ptr l3 (0+14))),(38,v38),(39,a1),(40,v40),(41,v41),(42,v41),(32,v41),(44,.agg c44.toArray),(45,(ptr l5 (0+1))),(46,v46),(47,.agg c47.toArray),(48,ptr l48 0),(9,ptr l48 0),(49,ptr l48 0),(50,ptr l48 0),(51,(ptr l48 (0+0))),(52,(ptr l48 (0+0+14))),(53,v53),(54,a1),(55,v55),(56,v56),(57,ptr l48 0),(58,(ptr l48 (0+0))),(59,(ptr l48 (0+0+14))),(60,ptr l48 0),(61,.agg c61.toArray),(62,v62),(63,ptr l48 0),(64,ptr l48 0),(65,(ptr l48 (0+0))),(66,(ptr l48 (0+0+10))),(67,v67),(68,a1),(69,v69),(70,ptr l48 0),(71,ptr l48 0),(72,(ptr l48 (0+0))),(73,(ptr l48 (0+0+10)))]) g19 n62) (
Zav C K (puts (Jq [a0,a1,a2]) [(3,ptr l3 0),(5,ptr l5 0),(6,ptr l6 0),(7,.slice none 0 0),(8,.int .i64 0),(12,.agg c12.toArray),(13,v13),(14,v14),(15,.bool false),(16,a1),(17,v17),(18,v18),(19,v18),(20,.bool false),(21,.agg c21.toArray),(22,v22),(23,v23),(24,v23),(25,.bool false),(26,(ptr l5 (0+0))),(27,v27),(28,v28),(29,v29),(30,v29),(11,v29),(33,(ptr l3 (0+12))),(34,v34),(35,v35),(36,.bool false),(37,(ptr l3 (0+14))),(38,v38),(39,a1),(40,v40),(41,v41),(42,v41),(32,v41),(44,.agg c44.toArray),(45,(ptr l5 (0+1))),(46,v46),(47,.agg c47.toArray),(48,ptr l48 0),(9,ptr l48 0),(49,ptr l48 0),(50,ptr l48 0),(51,(ptr l48 (0+0))),(52,(ptr l48 (0+0+14))),(53,v53),(54,a1),(55,v55),(56,v56),(57,ptr l48 0),(58,(ptr l48 (0+0))),(59,(ptr l48 (0+0+14))),(60,ptr l48 0),(61,.agg c61.toArray),(62,v62),(63,ptr l48 0),(64,ptr l48 0),(65,(ptr l48 (0+0))),(66,(ptr l48 (0+0+10))),(67,v67),(68,a1),(69,v69)]) g18 n62)))))))
theorem JcY (C:CT) (a0 a1 a2:Value) (g:G) (n:Nat) (K:Cont):JcH C a0 a1 a2 g n K=Xg Tryz.prog C Xav [a0,a1,a2] g n K:=by kernel_rfl
def JbX (C:CT) (a0 a1 a2:Value) (g:G) (n:Nat) (K:Cont):Prop:=
Xb .int .geq a0 a1 fun v9=>
Qa v9 (
Xb .int .leq a0 a2 fun v13=>
Xc K v13 g n) (
Xc K (.bool false) g n)
theorem Jcn (C:CT) (a0 a1 a2:Value) (g:G) (n:Nat) (K:Cont):JbX C a0 a1 a2 g n K=Xg Tryz.prog C Qe [a0,a1,a2] g n K:=by kernel_rfl
def Jdh (C:CT) (a0 a1:Value) (g:G) (n:Nat) (K:Cont):Prop:=
C Jbb [a0,a1] g n fun v11 g1 n11=>
Zd v11 0 fun v12=>
Zd v11 1 fun v13=>
Xb .int .neq v13 (.int .i64 0) fun v15=>
Qa v15 (
Xc K (.tuple #[.pointer none,v13]) g1 n11) (
Jh [.pointer none] [(0,none,v12)] fun c18=>
Jl (.agg c18.toArray) fun c19=>
Qv c19 .exact g1 n11 fun l19 g2 n19=>
Xc K (.tuple #[ptr l19 0,.int .i64 0]) g2 n19)
theorem Qda (C:CT) (a0 a1:Value) (g:G) (n:Nat) (K:Cont):Jdh C a0 a1 g n K=Xg Tryz.prog C Ja7 [a0,a1] g n K:=by kernel_rfl
def Jaq (C:CT) (a0 a1:Value) (g:G) (n:Nat) (K:Cont):Prop:=
Jm a0 fun v6=>
Jd v6 fun l7 o7=>
C JaT [(ptr l7 (o7+0)),a1] g n fun v9 g1 n9=>
Xc K v9 g1 n9
theorem XaQ (C:CT) (a0 a1:Value) (g:G) (n:Nat) (K:Cont):Jaq C a0 a1 g n K=Xg Tryz.prog C Zu [a0,a1] g n K:=by kernel_rfl
def JdJ (C:CT) (a0 a1:Value) (g:G) (n:Nat) (K:Cont):Prop:=
Xb .int .geq a0 (.int .i64 0) fun v6=>
Qa v6 (
Xb .int .lss a0 (.int .i64 64) fun v9=>
Qa v9 (
Xb .int .geq a1 (.int .i64 0) fun v13=>
Qa v13 (
Xb .int .lss a1 (.int .i64 8) fun v17=>
Xc K v17 g n) (
Xc K (.bool false) g n)) (
Xc K (.bool false) g n)) (
Xc K (.bool false) g n)
theorem Qds (C:CT) (a0 a1:Value) (g:G) (n:Nat) (K:Cont):JdJ C a0 a1 g n K=Xg Tryz.prog C Jaz [a0,a1] g n K:=by kernel_rfl
def JaZ (C:CT) (a0 a1:Value) (g:G) (n:Nat) (K:Cont):Prop:=
Qv [.int .i64 0,.int .i64 0,.int .u64 0,.int .u64 0,.int .u64 0,.int .u64 0,.int .u64 0,.int .u64 0,.int .u64 0,.int .u64 0,.int .i64 0] .exact g n fun l4 g1 n4=>
Jm a0 fun v9=>
Jd v9 fun l10 o10=>
kLd g1 l10 (o10+0) fun v11=>
C Jae [v11,a1] g1 n4 fun v13 g2 n13=>
Zd v13 0 fun v14=>
Zd v13 1 fun v15=>
Qv [.int .i64 0,.int .i64 0,.int .u64 0,.int .u64 0,.int .u64 0,.int .u64 0,.int .u64 0,.int .u64 0,.int .u64 0,.int .u64 0,.int .i64 0] .exact g2 n13 fun l5 g3 n5=>
Jl v14 fun cg4=>
cg4.length=11∧Qs g3 l5 0 cg4 fun g4=>
Xl g4 l5 0 11 fun c16=>
Jl (.agg c16.toArray) fun cg5=>
cg5.length=11∧Qs g4 l4 0 cg5 fun g5=>
Xl g5 l4 0 11 fun r0=>
Xc K (.agg r0.toArray) g5 n5
theorem Zbx (C:CT) (a0 a1:Value) (g:G) (n:Nat) (K:Cont):JaZ C a0 a1 g n K=Xg Tryz.prog C Zm [a0,a1] g n K:=by kernel_rfl
def ZaL (C:CT) (a0 a1:Value) (g:G) (n:Nat) (K:Cont):Prop:=
C QF [a0,a1] g n fun v7 g1 n7=>
Xb .int .geq v7 (.int .i64 0) fun v9=>
Qa v9 (
C Qt [a0,a1] g1 n7 fun v12 g2 n12=>
C ZL [a0] g2 n12 fun v15 g3 n15=>
Zc v12 v7 11 fun v16=>
Jd v16 fun l17 o17=>
kSt g3 l17 (o17+10) v15 fun g4=>
Xc K (.tuple #[]) g4 n15) (
Xc K (.tuple #[]) g1 n7)
theorem Qbn (C:CT) (a0 a1:Value) (g:G) (n:Nat) (K:Cont):ZaL C a0 a1 g n K=Xg Tryz.prog C X7 [a0,a1] g n K:=by kernel_rfl
def XL (C:CT) (K:Cont) (t:Env) (g:G) (n:Nat):Prop:=
Jm (t 0) fun v43=>
Jd v43 fun l44 o44=>
kLd g l44 (o44+0) fun v45=>
Jd (t 9) fun l48 o48=>
Xl g l48 o48 8 fun c48=>
C JB [v45,t 1,t 2,.agg c48.toArray] g n fun v49 g6 n49=>
Jh [.int .i64 0,.int .i64 0,.bool false,.bool false,.int .u64 0,.int .u64 0,.int .u64 0,.int .u64 0,.int .u64 0,.int .u64 0,.int .u64 0,.int .u64 0] [(0,none,t 3),(1,none,t 1)] fun c52=>
Jh (reps 1 [.int .i64 0,.int .i64 0,.bool false,.bool false,.int .u64 0,.int .u64 0,.int .u64 0,.int .u64 0,.int .u64 0,.int .u64 0,.int .u64 0,.int .u64 0]) [(0,some 12,.agg c52.toArray)] fun c53=>
Qv c53 .exact g6 n49 fun l53 g7 n53=>
Xc K (.slice (some ⟨l53,0,none⟩) 1 1) g7 n53
def Xbf (C:CT) (a0 a1 a2 a3 a4:Value) (g:G) (n:Nat) (K:Cont):Prop:=
Jl a4 fun c9=>
Qv c9 .exact g n fun l9 g1 n9=>
C QT [a0] g1 n9 fun v14 g2 n14=>
kUn .not v14 fun v15=>
Qa v15 (
Xc K (.slice none 0 0) g2 n14) (
Xb .int .neq a2 (.int .i64 6) fun v17=>
Qa v17 (
Jm a0 fun v20=>
Jd v20 fun l21 o21=>
kLd g2 l21 (o21+0) fun v22=>
C Qad [v22,a1] g2 n14 fun v24 g3 n24=>
Zd v24 0 fun v25=>
Zd v24 1 fun v26=>
kUn .not v25 fun v29=>
Qa v29 (
Xb .int .lss v26 (.int .i64 0) fun v32=>
Qa v32 (
Xc K (.slice none 0 0) g3 n24) (
kUn .not v25 fun v36=>
Qa v36 (
C Zm [a0,v26] g3 n24 fun v40 g4 n40=>
C ZK [a0,v40] g4 n40 fun v41 g5 n41=>
Xc K v41 g5 n41) (
XL C K (puts (Jq [a0,a1,a2,a3,a4]) [(9,ptr l9 0),(10,.slice none 0 0),(13,a0),(14,v14),(15,v15),(16,a2),(17,v17),(19,a0),(20,v20),(21,(ptr l21 (o21+0))),(22,v22),(23,a1),(24,v24),(18,v24),(25,v25),(26,v26),(11,v25),(12,v26),(28,v25),(29,v29),(30,.bool true),(31,v26),(32,v32),(33,v32),(27,v32),(35,v25),(36,v36),(34,v36)]) g3 n24))) (
kUn .not v25 fun v36=>
Qa v36 (
C Zm [a0,v26] g3 n24 fun v40 g8 n40=>
C ZK [a0,v40] g8 n40 fun v41 g9 n41=>
Xc K v41 g9 n41) (
XL C K (puts (Jq [a0,a1,a2,a3,a4]) [(9,ptr l9 0),(10,.slice none 0 0),(13,a0),(14,v14),(15,v15),(16,a2),(17,v17),(19,a0),(20,v20),(21,(ptr l21 (o21+0))),(22,v22),(23,a1),(24,v24),(18,v24),(25,v25),(26,v26),(11,v25),(12,v26),(28,v25),(29,v29),(30,.bool false),(31,undef),(32,undef),(33,.bool false),(27,.bool false),(35,v25),(36,v36),(34,v36)]) g3 n24))) (
XL C K (puts (Jq [a0,a1,a2,a3,a4]) [(9,ptr l9 0),(10,.slice none 0 0),(13,a0),(14,v14),(15,v15),(16,a2),(17,v17)]) g2 n14))
theorem JbM (C:CT) (a0 a1 a2 a3 a4:Value) (g:G) (n:Nat) (K:Cont):Xbf C a0 a1 a2 a3 a4 g n K=Xg Tryz.prog C JJ [a0,a1,a2,a3,a4] g n K:=by kernel_rfl
def Zda (C:CT) (a0:Value) (g:G) (n:Nat) (K:Cont):Prop:=
Jl a0 fun c1=>
Qv c1 .exact g n fun l1 g1 n1=>
Xl g1 l1 0 15 fun c3=>
C JaB [.agg c3.toArray] g1 n1 fun v4 g2 n4=>
Qa v4 (
kLd g2 l1 (0+12) fun v7=>
Xb .int .eql v7 (.int .i64 4) fun v8=>
Qa v8 (
kLd g2 l1 (0+14) fun v17=>
Xb .int .eql v17 (.int .u8 0) fun v18=>
Xc K v18 g2 n4) (
kLd g2 l1 (0+12) fun v11=>
Xb .int .eql v11 (.int .i64 5) fun v12=>
Qa v12 (
kLd g2 l1 (0+14) fun v17=>
Xb .int .eql v17 (.int .u8 0) fun v18=>
Xc K v18 g2 n4) (
Xc K (.bool false) g2 n4))) (
Xc K (.bool false) g2 n4)
theorem Zdm (C:CT) (a0:Value) (g:G) (n:Nat) (K:Cont):Zda C a0 g n K=Xg Tryz.prog C ZaF [a0] g n K:=by kernel_rfl
def ZcM (C:CT) (a0:Value) (g:G) (n:Nat) (K:Cont):Prop:=
Jl a0 fun c1=>
Qv c1 .exact g n fun l1 g1 n1=>
Qv [.bool false,.bool false,.int .u64 0,.int .u64 0,.int .u64 0,.int .u64 0,.int .u64 0,.int .u64 0,.int .u64 0,.int .u64 0,.int .i64 0,.int .u8 0,.int .i64 0,.int .i64 0,.int .u8 0] .exact g1 n1 fun l2 g2 n2=>
Xl g2 l1 0 15 fun c7=>
C ZaF [.agg c7.toArray] g2 n2 fun v8 g3 n8=>
kUn .not v8 fun v9=>
Qa v9 (
Jh [.bool false,.bool false,.int .u64 0,.int .u64 0,.int .u64 0,.int .u64 0,.int .u64 0,.int .u64 0,.int .u64 0,.int .u64 0,.int .i64 0,.int .u8 0,.int .i64 0,.int .i64 0,.int .u8 0] [] fun c10=>
Jl (.agg c10.toArray) fun cg4=>
cg4.length=15∧Qs g3 l2 0 cg4 fun g4=>
Xl g4 l2 0 15 fun r0=>
Xc K (.tuple #[.agg r0.toArray,.slice none 0 0,.int .i64 16]) g4 n8) (
Xl g3 l1 0 15 fun c11=>
Jh [.bool false,.bool false,.int .u64 0,.int .u64 0,.int .u64 0,.int .u64 0,.int .u64 0,.int .u64 0,.int .u64 0,.int .u64 0,.int .i64 0,.int .u8 0,.int .i64 0,.int .i64 0,.int .u8 0,.int .i64 0,.slice none 0 0] [(0,some 15,.agg c11.toArray)] fun c12=>
Jl (.agg c12.toArray) fun c13=>
Qv c13 .exact g3 n8 fun l13 g5 n13=>
kSt g5 l13 (0+0+1) (.bool false) fun g6=>
kLd g6 l1 (0+13) fun v19=>
C JW [ptr l13 0] g6 n13 fun v21 g7 n21=>
C XC [ptr l13 0,v19,.int .i64 14] g7 n21 fun v24 g8 n24=>
Xl g8 l13 (0+0) 15 fun c28=>
kLd g8 l13 (0+16) fun v32=>
Jl (.agg c28.toArray) fun cg9=>
cg9.length=15∧Qs g8 l2 0 cg9 fun g9=>
(Jd (ptr l13 (0+16)) fun l _=>g9 l=g8 l)∧Xl g9 l2 0 15 fun r0=>
Xc K (.tuple #[.agg r0.toArray,v32,.int .i64 0]) g9 n24)
theorem XcU (C:CT) (a0:Value) (g:G) (n:Nat) (K:Cont):ZcM C a0 g n K=Xg Tryz.prog C JaW [a0] g n K:=by kernel_rfl
def Jw (C:CT) (K:Cont) (t:Env) (g:G) (n:Nat):Prop:=
Jm (t 0) fun v46=>
Jd v46 fun l47 o47=>
kLd g l47 (o47+2) fun v48=>
Xb .int .add (t 5) (t 6) fun v51=>
Xr v48 (some v51) none none 9 fun v52=>
J9 v52 [.int .i64 0,.int .u64 0,.int .u64 0,.int .u64 0,.int .u64 0,.int .u64 0,.int .u64 0,.int .u64 0,.int .u64 0] g fun v_ g5=>
Jm (t 0) fun v55=>
Jd v55 fun l56 o56=>
kLd g5 l56 (o56+2) fun v57=>
Xb .int .add (t 5) (t 6) fun v60=>
Xr v57 none (some v60) none 9 fun v61=>
Jm (t 0) fun v62=>
Jd v62 fun l63 o63=>
kSt g5 l63 (o63+2) v61 fun g6=>
Xc K (.int .i64 0) g6 n
def QD (C:CT) (K:Cont) (J:Zi) (t:Env) (g:G) (n:Nat):Prop:=
Jm (t 0) fun v32=>
Jd v32 fun l33 o33=>
kLd g l33 (o33+2) fun v34=>
Xr v34 (some (t 5)) none none 9 fun v36=>
Jm (t 0) fun v38=>
Jd v38 fun l39 o39=>
kLd g l39 (o39+2) fun v40=>
Xb .int .add (t 5) (.int .i64 1) fun v42=>
Xr v40 (some v42) none none 9 fun v43=>
Zbg v36 v43 9 g fun v44 g4=>
J (puts t [(31,t 0),(32,v32),(33,(ptr l33 (o33+2))),(34,v34),(35,t 5),(36,v36),(37,t 0),(38,v38),(39,(ptr l39 (o39+2))),(40,v40),(41,t 5),(42,v42),(43,v43),(44,v44),(6,v44)]) g4 n
def Xam (C:CT) (a0 a1:Value) (J:Zi) (g:G) (n:Nat) (K:Cont):Prop:=
isCell a1=true∧Qv [a1] .exact g n fun l3 g1 n3=>
Xb .ptr .eql a0 (.pointer none) fun v8=>
Qa v8 (
Xc K (.int .i64 1) g1 n3) (
Jm a0 fun v10=>
Jd v10 fun l11 o11=>
kLd g1 l11 (o11+2) fun v12=>
C Zr [v12,(.func (.func Js) #[] #[ptr l3 0])] g1 n3 fun v14 g2 n14=>
Xb .int .lss v14 (.int .i64 0) fun v16=>
Qa v16 (
Xc K (.int .i64 14) g2 n14) (
Jm a0 fun v18=>
Jd v18 fun l19 o19=>
kLd g2 l19 (o19+0) fun v20=>
kLd g2 l3 0 fun v21=>
Jm a0 fun v23=>
Jd v23 fun l24 o24=>
kLd g2 l24 (o24+2) fun v25=>
Zc v25 v14 9 fun v27=>
Jd v27 fun l28 o28=>
Xl g2 l28 (o28+1) 8 fun c29=>
C ZT [v20,v21,.agg c29.toArray] g2 n14 fun v30 g3 n30=>
J (puts (Jq [a0,a1]) [(3,ptr l3 0),(4,.int .i64 0),(7,a0),(8,v8),(9,a0),(10,v10),(11,(ptr l11 (o11+2))),(12,v12),(13,(.func (.func Js) #[] #[ptr l3 0])),(14,v14),(5,v14),(15,v14),(16,v16),(17,a0),(18,v18),(19,(ptr l19 (o19+0))),(20,v20),(21,v21),(22,a0),(23,v23),(24,(ptr l24 (o24+2))),(25,v25),(26,v14),(27,v27),(28,(ptr l28 (o28+1))),(29,.agg c29.toArray),(30,v30)]) g3 n30))
def XaA (C:CT) (a0 a1:Value) (g:G) (n:Nat) (K:Cont):Prop:=Xam C a0 a1 (QD C K (Jw C K)) g n K
theorem JaP (C:CT) (t:Env) (g:G) (n:Nat) (K:Cont):Jw C K t g n=ZaB Tryz.prog C [1,1,1,1,1,1] Xn K t g n:=by kernel_rfl
theorem ZaS (C:CT) (K:Cont):Jw C K=ZaB Tryz.prog C [1,1,1,1,1,1] Xn K:=funext fun t=>funext fun g=>funext fun n=>JaP C t g n K
theorem ZaI (C:CT) (J:Zi) (t:Env) (g:G) (n:Nat) (K:Cont):QD C K J t g n=Jbh Tryz.prog C [1,1,1,1,1] [1] J Xn K t g n:=by kernel_rfl
theorem JaX (C:CT) (K:Cont):QD C K (Jw C K)=ZaB Tryz.prog C [1,1,1,1,1] Xn K:=by
 rw [ZaS]
 exact (funext fun t=>funext fun g=>funext fun n=>ZaI C _ t g n K).trans (ZbK Tryz.prog C [1,1,1,1,1] [1] Xn K)
theorem ZaU (C:CT) (a0 a1:Value) (J:Zi) (g:G) (n:Nat) (K:Cont):Xam C a0 a1 J g n K=Xca Tryz.prog C [1,1,1,1,1] J Xn [a0,a1] g n K:=by kernel_rfl
theorem XbI (C:CT) (a0 a1:Value) (g:G) (n:Nat) (K:Cont):XaA C a0 a1 g n K=Xg Tryz.prog C Xn [a0,a1] g n K:=by
 unfold XaA
 rw [ZaU,JaX]
 exact Qcd Tryz.prog C [1,1,1,1,1] Xn [a0,a1] g n K
def Zag (C:CT) (K:Cont) (t:Env) (g:G) (n:Nat):Prop:=
Jd (t 1) fun l41 o41=>
kLd g l41 (o41+2) fun v42=>
Qa v42 (
Xc K (.bool true) g n) (
Xb .int .and (t 3) (.int .i64 4) fun v45=>
Xb .int .neq v45 (.int .i64 0) fun v46=>
Qa v46 (
Xc K (.bool true) g n) (
Jd (t 1) fun l49 o49=>
Xl g l49 (o49+4) 8 fun c50=>
Jh [.int .u64 0,.int .u64 0,.int .u64 0,.int .u64 0,.int .u64 0,.int .u64 0,.int .u64 0,.int .u64 0] [] fun c51=>
Xb (.agg [.i,.i,.i,.i,.i,.i,.i,.i]) .eql (.agg c50.toArray) (.agg c51.toArray) fun v52=>
Xc K v52 g n))
def QdM (C:CT) (a0:Value) (g:G) (n:Nat) (K:Cont):Prop:=
Jl a0 fun c1=>
Qv c1 .exact g n fun l1 g1 n1=>
kLd g1 l1 (0+0) fun v5=>
Xb .int .lss v5 (.int .i64 1) fun v6=>
Qa v6 (
Xc K (.bool false) g1 n1) (
kLd g1 l1 (0+0) fun v9=>
Xb .int .gtr v9 (.int .i64 14) fun v10=>
Qa v10 (
Xc K (.bool false) g1 n1) (
kLd g1 l1 (0+1) fun v14=>
Xb .int .lss v14 (.int .i64 0) fun v15=>
Qa v15 (
Xc K (.bool false) g1 n1) (
kLd g1 l1 (0+1) fun v19=>
Xb .int .geq v19 (.int .i64 64) fun v20=>
Qa v20 (
Xc K (.bool false) g1 n1) (
kLd g1 l1 (0+0) fun v24=>
C JcB [] g1 n1 fun v22 g2 n22=>
(Jd (ptr l1 (0+0)) fun l _=>g2 l=g1 l)∧Qc4 v22 v24 15 1 none fun v25=>
kLd g2 l1 (0+2) fun v28=>
Qa v28 (
Xb .int .and v25 (.int .i64 1) fun v31=>
Xb .int .eql v31 (.int .i64 0) fun v32=>
Qa v32 (
Qa v32 (
Xc K (.bool false) g2 n22) (
Zag C K (puts (Jq [a0]) [(1,ptr l1 0),(2,.bool false),(4,(ptr l1 (0+0))),(5,v5),(6,v6),(7,.bool false),(8,(ptr l1 (0+0))),(9,v9),(10,v10),(11,v10),(12,.bool false),(13,(ptr l1 (0+1))),(14,v14),(15,v15),(16,v15),(17,.bool false),(18,(ptr l1 (0+1))),(19,v19),(20,v20),(21,v20),(23,(ptr l1 (0+0))),(24,v24),(22,v22),(25,v25),(3,v25),(27,(ptr l1 (0+2))),(28,v28),(29,.bool true),(30,v25),(31,v31),(32,v32),(33,v32),(26,v32)]) g2 n22)) (
kLd g2 l1 (0+3) fun v35=>
Qa v35 (
Xb .int .and v25 (.int .i64 2) fun v38=>
Xb .int .eql v38 (.int .i64 0) fun v39=>
Qa v39 (
Xc K (.bool false) g2 n22) (
Zag C K (puts (Jq [a0]) [(1,ptr l1 0),(2,.bool false),(4,(ptr l1 (0+0))),(5,v5),(6,v6),(7,.bool false),(8,(ptr l1 (0+0))),(9,v9),(10,v10),(11,v10),(12,.bool false),(13,(ptr l1 (0+1))),(14,v14),(15,v15),(16,v15),(17,.bool false),(18,(ptr l1 (0+1))),(19,v19),(20,v20),(21,v20),(23,(ptr l1 (0+0))),(24,v24),(22,v22),(25,v25),(3,v25),(27,(ptr l1 (0+2))),(28,v28),(29,.bool true),(30,v25),(31,v31),(32,v32),(33,v32),(26,v32),(34,(ptr l1 (0+3))),(35,v35),(36,.bool true),(37,v25),(38,v38),(39,v39),(40,v39),(26,v39)]) g2 n22)) (
Zag C K (puts (Jq [a0]) [(1,ptr l1 0),(2,.bool false),(4,(ptr l1 (0+0))),(5,v5),(6,v6),(7,.bool false),(8,(ptr l1 (0+0))),(9,v9),(10,v10),(11,v10),(12,.bool false),(13,(ptr l1 (0+1))),(14,v14),(15,v15),(16,v15),(17,.bool false),(18,(ptr l1 (0+1))),(19,v19),(20,v20),(21,v20),(23,(ptr l1 (0+0))),(24,v24),(22,v22),(25,v25),(3,v25),(27,(ptr l1 (0+2))),(28,v28),(29,.bool true),(30,v25),(31,v31),(32,v32),(33,v32),(26,v32),(34,(ptr l1 (0+3))),(35,v35),(36,.bool false),(37,undef),(38,undef),(39,undef),(40,.bool false),(26,.bool false)]) g2 n22))) (
kLd g2 l1 (0+3) fun v35=>
Qa v35 (
Xb .int .and v25 (.int .i64 2) fun v38=>
Xb .int .eql v38 (.int .i64 0) fun v39=>
Qa v39 (
Xc K (.bool false) g2 n22) (
Zag C K (puts (Jq [a0]) [(1,ptr l1 0),(2,.bool false),(4,(ptr l1 (0+0))),(5,v5),(6,v6),(7,.bool false),(8,(ptr l1 (0+0))),(9,v9),(10,v10),(11,v10),(12,.bool false),(13,(ptr l1 (0+1))),(14,v14),(15,v15),(16,v15),(17,.bool false),(18,(ptr l1 (0+1))),(19,v19),(20,v20),(21,v20),(23,(ptr l1 (0+0))),(24,v24),(22,v22),(25,v25),(3,v25),(27,(ptr l1 (0+2))),(28,v28),(29,.bool false),(30,undef),(31,undef),(32,undef),(33,.bool false),(26,.bool false),(34,(ptr l1 (0+3))),(35,v35),(36,.bool true),(37,v25),(38,v38),(39,v39),(40,v39),(26,v39)]) g2 n22)) (
Zag C K (puts (Jq [a0]) [(1,ptr l1 0),(2,.bool false),(4,(ptr l1 (0+0))),(5,v5),(6,v6),(7,.bool false),(8,(ptr l1 (0+0))),(9,v9),(10,v10),(11,v10),(12,.bool false),(13,(ptr l1 (0+1))),(14,v14),(15,v15),(16,v15),(17,.bool false),(18,(ptr l1 (0+1))),(19,v19),(20,v20),(21,v20),(23,(ptr l1 (0+0))),(24,v24),(22,v22),(25,v25),(3,v25),(27,(ptr l1 (0+2))),(28,v28),(29,.bool false),(30,undef),(31,undef),(32,undef),(33,.bool false),(26,.bool false),(34,(ptr l1 (0+3))),(35,v35),(36,.bool false),(37,undef),(38,undef),(39,undef),(40,.bool false),(26,.bool false)]) g2 n22))))))
theorem ZdA (C:CT) (a0:Value) (g:G) (n:Nat) (K:Cont):QdM C a0 g n K=Xg Tryz.prog C Qao [a0] g n K:=by kernel_rfl
def JaI (C:CT) (a0 a1:Value) (g:G) (n:Nat) (K:Cont):Prop:=
Xb .ptr .eql a0 (.pointer none) fun v7=>
Qa v7 (
Xc K (.slice none 0 0) g n) (
C Jaz [a1,.int .i64 0] g n fun v10 g1 n10=>
kUn .not v10 fun v11=>
Qa v11 (
Xc K (.slice none 0 0) g1 n10) (
C ZG [a0,a1] g1 n10 fun v16 g2 n16=>
Qa v16 (
Xc K (.slice none 0 0) g2 n16) (
C Zm [a0,a1] g2 n16 fun v20 g3 n20=>
Qv [.int .i64 0,.int .i64 0,.int .u64 0,.int .u64 0,.int .u64 0,.int .u64 0,.int .u64 0,.int .u64 0,.int .u64 0,.int .u64 0,.int .i64 0] .exact g3 n20 fun l5 g4 n5=>
Jl v20 fun cg5=>
cg5.length=11∧Qs g4 l5 0 cg5 fun g5=>
kLd g5 l5 (0+0) fun v22=>
Xb .int .eql v22 (.int .i64 1) fun v23=>
Qa v23 (
Xl g5 l5 (0+2) 8 fun c27=>
C JJ [a0,a1,.int .i64 6,.int .i64 2,.agg c27.toArray] g5 n5 fun v28 g6 n28=>
Xc K v28 g6 n28) (
Jh [.int .u64 0,.int .u64 0,.int .u64 0,.int .u64 0,.int .u64 0,.int .u64 0,.int .u64 0,.int .u64 0] [] fun c31=>
C JJ [a0,a1,.int .i64 5,.int .i64 2,.agg c31.toArray] g5 n5 fun v32 g7 n32=>
Xc K v32 g7 n32))))
theorem Jbo (C:CT) (a0 a1:Value) (g:G) (n:Nat) (K:Cont):JaI C a0 a1 g n K=Xg Tryz.prog C ZO [a0,a1] g n K:=by kernel_rfl
def Xa1 (C:CT) (a0 a1:Value) (g:G) (n:Nat) (K:Cont):Prop:=
Xb .ptr .eql a0 (.pointer none) fun v7=>
Qa v7 (
Xc K (.bool false) g n) (
C Zm [a0,a1] g n fun v10 g1 n10=>
Qv [.int .i64 0,.int .i64 0,.int .u64 0,.int .u64 0,.int .u64 0,.int .u64 0,.int .u64 0,.int .u64 0,.int .u64 0,.int .u64 0,.int .i64 0] .exact g1 n10 fun l5 g2 n5=>
Jl v10 fun cg3=>
cg3.length=11∧Qs g2 l5 0 cg3 fun g3=>
kLd g3 l5 (0+0) fun v12=>
Xb .int .eql v12 (.int .i64 2) fun v13=>
Qa v13 (
Xc K (.bool true) g3 n5) (
kLd g3 l5 (0+0) fun v16=>
Xb .int .eql v16 (.int .i64 3) fun v17=>
Xc K v17 g3 n5))
theorem Qbu (C:CT) (a0 a1:Value) (g:G) (n:Nat) (K:Cont):Xa1 C a0 a1 g n K=Xg Tryz.prog C ZG [a0,a1] g n K:=by kernel_rfl
def JaJ (C:CT) (a0:Value) (g:G) (n:Nat) (K:Cont):Prop:=
Xb .ptr .eql a0 (.pointer none) fun v4=>
Qa v4 (
Xc K (.slice none 0 0) g n) (
Jm a0 fun v6=>
Jd v6 fun l7 o7=>
kLd g l7 (o7+2) fun v8=>
C Xs [v8] g n fun v9 g1 n9=>
C Xp [v9,(.func (.func Qap) #[] #[])] g1 n9 fun v10 g2 n10=>
Xc K v10 g2 n10)
theorem Jbm (C:CT) (a0:Value) (g:G) (n:Nat) (K:Cont):JaJ C a0 g n K=Xg Tryz.prog C XD [a0] g n K:=by kernel_rfl
def Xz (C:CT) (K:Cont) (t:Env) (g:G) (n:Nat):Prop:=
Jm (t 0) fun v59=>
Jd v59 fun l60 o60=>
kSt g l60 (o60+2) (t 9) fun g8=>
Xc K (.int .i64 0) g8 n
def JG (C:CT) (K:Cont) (J:Zi) (t:Env) (g:G) (n:Nat):Prop:=
Jm (t 0) fun v35=>
Jd v35 fun l36 o36=>
kLd g l36 (o36+2) fun v37=>
JaF v37 fun v38=>
Xb .int .add v38 (.int .i64 1) fun v39=>
Qby v39 v39 [.int .i64 0,.int .u64 0,.int .u64 0,.int .u64 0,.int .u64 0,.int .u64 0,.int .u64 0,.int .u64 0,.int .u64 0] 72 g n fun v40 g5 n40=>
Jm (t 0) fun v43=>
Jd v43 fun l44 o44=>
kLd g5 l44 (o44+2) fun v45=>
Zbg v40 v45 9 g5 fun v46 g6=>
Jm (t 0) fun v49=>
Jd v49 fun l50 o50=>
kLd g6 l50 (o50+2) fun v51=>
JaF v51 fun v52=>
Jd (t 5) fun l54 o54=>
Xl g6 l54 o54 8 fun c54=>
Jh [.int .i64 0,.int .u64 0,.int .u64 0,.int .u64 0,.int .u64 0,.int .u64 0,.int .u64 0,.int .u64 0,.int .u64 0] [(0,none,t 1),(1,some 8,.agg c54.toArray)] fun c55=>
Zc v40 v52 9 fun v56=>
Jd v56 fun lg7 og7=>
Jl (.agg c55.toArray) fun cg7=>
cg7.length=9∧Qs g6 lg7 og7 cg7 fun g7=>
J (puts t [(34,t 0),(35,v35),(36,(ptr l36 (o36+2))),(37,v37),(38,v38),(39,v39),(40,v40),(9,v40),(41,v40),(42,t 0),(43,v43),(44,(ptr l44 (o44+2))),(45,v45),(46,v46),(47,v40),(48,t 0),(49,v49),(50,(ptr l50 (o50+2))),(51,v51),(52,v52),(53,t 1),(54,.agg c54.toArray),(55,.agg c55.toArray),(56,v56)]) g7 n40
def Qar (C:CT) (a0 a1 a2:Value) (J:Zi) (g:G) (n:Nat) (K:Cont):Prop:=
Jl a2 fun c5=>
Qv c5 .exact g n fun l5 g1 n5=>
Xb .ptr .eql a0 (.pointer none) fun v11=>
Qa v11 (
Xc K (.int .i64 1) g1 n5) (
Jm a0 fun v14=>
Jd v14 fun l15 o15=>
kLd g1 l15 (o15+0) fun v16=>
C Xah [v16,a1] g1 n5 fun v18 g2 n18=>
Zd v18 0 fun v19=>
Zd v18 1 fun v20=>
Qv [.int .u64 0,.int .u64 0,.int .u64 0,.int .u64 0,.int .u64 0,.int .u64 0,.int .u64 0,.int .u64 0] .exact g2 n18 fun l7 g3 n7=>
Jl v19 fun cg4=>
cg4.length=8∧Qs g3 l7 0 cg4 fun g4=>
Xb .int .neq v20 (.int .i64 0) fun v22=>
Qa v22 (
Xc K v20 g4 n7) (
Jm a0 fun v25=>
Jd v25 fun l26 o26=>
kLd g4 l26 (o26+2) fun v27=>
JaF v27 fun v28=>
Jm a0 fun v30=>
Jd v30 fun l31 o31=>
kLd g4 l31 (o31+1) fun v32=>
Xb .int .geq v28 v32 fun v33=>
Qa v33 (
Xc K (.int .i64 13) g4 n7) (
J (puts (Jq [a0,a1,a2]) [(5,ptr l5 0),(6,.int .i64 0),(10,a0),(11,v11),(13,a0),(14,v14),(15,(ptr l15 (o15+0))),(16,v16),(17,a1),(18,v18),(12,v18),(19,v19),(20,v20),(7,ptr l7 0),(8,v20),(21,v20),(22,v22),(24,a0),(25,v25),(26,(ptr l26 (o26+2))),(27,v27),(28,v28),(29,a0),(30,v30),(31,(ptr l31 (o31+1))),(32,v32),(33,v33)]) g4 n7)))
def ZaH (C:CT) (a0 a1 a2:Value) (g:G) (n:Nat) (K:Cont):Prop:=Qar C a0 a1 a2 (JG C K (Xz C K)) g n K
theorem QaS (C:CT) (t:Env) (g:G) (n:Nat) (K:Cont):Xz C K t g n=ZaB Tryz.prog C [1,1,1,1,1,1,1] Zq K t g n:=by kernel_rfl
theorem Qa4 (C:CT) (K:Cont):Xz C K=ZaB Tryz.prog C [1,1,1,1,1,1,1] Zq K:=funext fun t=>funext fun g=>funext fun n=>QaS C t g n K
theorem ZaX (C:CT) (J:Zi) (t:Env) (g:G) (n:Nat) (K:Cont):JG C K J t g n=Jbh Tryz.prog C [1,1,1,1] [1,1,1] J Zq K t g n:=by kernel_rfl
theorem Za5 (C:CT) (K:Cont):JG C K (Xz C K)=ZaB Tryz.prog C [1,1,1,1] Zq K:=by
 rw [Qa4]
 exact (funext fun t=>funext fun g=>funext fun n=>ZaX C _ t g n K).trans (ZbK Tryz.prog C [1,1,1,1] [1,1,1] Zq K)
theorem Xa4 (C:CT) (a0 a1 a2:Value) (J:Zi) (g:G) (n:Nat) (K:Cont):Qar C a0 a1 a2 J g n K=Xca Tryz.prog C [1,1,1,1] J Zq [a0,a1,a2] g n K:=by kernel_rfl
theorem JbS (C:CT) (a0 a1 a2:Value) (g:G) (n:Nat) (K:Cont):ZaH C a0 a1 a2 g n K=Xg Tryz.prog C Zq [a0,a1,a2] g n K:=by
 unfold ZaH
 rw [Xa4,Za5]
 exact Qcd Tryz.prog C [1,1,1,1] Zq [a0,a1,a2] g n K
def Xa2 (C:CT) (a0:Value) (g:G) (n:Nat) (K:Cont):Prop:=
Xb .ptr .eql a0 (.pointer none) fun v4=>
Qa v4 (
Xc K (.bool true) g n) (
Jm a0 fun v7=>
Jd v7 fun l8 o8=>
kLd g l8 (o8+0) fun v9=>
C XD [v9] g n fun v10 g1 n10=>
C Zv [v10,(.func (.func Q0) #[] #[])] g1 n10 fun v11 g2 n11=>
kUn .not v11 fun v12=>
Xc K v12 g2 n11)
theorem Jbu (C:CT) (a0:Value) (g:G) (n:Nat) (K:Cont):Xa2 C a0 g n K=Xg Tryz.prog C QT [a0] g n K:=by kernel_rfl
def XZ (C:CT) (K:Cont) (t:Env) (g:G) (n:Nat):Prop:=
Jm (t 0) fun v18=>
Jd v18 fun l19 o19=>
kLd g l19 (o19+0) fun v20=>
Jd (t 3) fun l21 o21=>
kLd g l21 (o21+1) fun v22=>
Jd (t 3) fun l24 o24=>
Xl g l24 (o24+2) 8 fun c25=>
C JB [v20,v22,t 6,.agg c25.toArray] g n fun v26 g6 n26=>
Jd (t 5) fun l27 o27=>
Xl g6 l27 o27 12 fun c27=>
Jh (reps 1 [.int .i64 0,.int .i64 0,.bool false,.bool false,.int .u64 0,.int .u64 0,.int .u64 0,.int .u64 0,.int .u64 0,.int .u64 0,.int .u64 0,.int .u64 0]) [(0,some 12,.agg c27.toArray)] fun c28=>
Qv c28 .exact g6 n26 fun l28 g7 n28=>
Xc K (.slice (some ⟨l28,0,none⟩) 1 1) g7 n28
def Jbe (C:CT) (a0 a1:Value) (g:G) (n:Nat) (K:Cont):Prop:=
Jl a1 fun c3=>
Qv c3 .exact g n fun l3 g1 n3=>
kLd g1 l3 (0+1) fun v8=>
Jh [.int .i64 0,.int .i64 0,.bool false,.bool false,.int .u64 0,.int .u64 0,.int .u64 0,.int .u64 0,.int .u64 0,.int .u64 0,.int .u64 0,.int .u64 0] [(0,none,.int .i64 3),(1,none,v8)] fun c9=>
Qv [.int .i64 0,.int .i64 0,.bool false,.bool false,.int .u64 0,.int .u64 0,.int .u64 0,.int .u64 0,.int .u64 0,.int .u64 0,.int .u64 0,.int .u64 0] .exact g1 n3 fun l5 g2 n5=>
Jl (.agg c9.toArray) fun cg3=>
cg3.length=12∧Qs g2 l5 0 cg3 fun g3=>
kLd g3 l3 (0+0) fun v11=>
Xb .int .eql v11 (.int .i64 3) fun v12=>
Qa v12 (
Xl g3 l3 (0+2) 8 fun c14=>
kSt g3 l5 (0+2) (.bool true) fun g4=>
(Jd (ptr l3 (0+2)) fun l _=>g4 l=g3 l)∧Jl (.agg c14.toArray) fun cg5=>
cg5.length=8∧Qs g4 l5 (0+4) cg5 fun g5=>
XZ C K (puts (Jq [a0,a1]) [(3,ptr l3 0),(4,.slice none 0 0),(7,(ptr l3 (0+1))),(8,v8),(9,.agg c9.toArray),(5,ptr l5 0),(6,.int .i64 7),(10,(ptr l3 (0+0))),(11,v11),(12,v12),(13,(ptr l3 (0+2))),(14,.agg c14.toArray),(6,.int .i64 9),(15,(ptr l5 (0+2))),(16,(ptr l5 (0+4)))]) g5 n5) (
XZ C K (puts (Jq [a0,a1]) [(3,ptr l3 0),(4,.slice none 0 0),(7,(ptr l3 (0+1))),(8,v8),(9,.agg c9.toArray),(5,ptr l5 0),(6,.int .i64 7),(10,(ptr l3 (0+0))),(11,v11),(12,v12)]) g3 n5)
theorem JbH (C:CT) (a0 a1:Value) (g:G) (n:Nat) (K:Cont):Jbe C a0 a1 g n K=Xg Tryz.prog C ZK [a0,a1] g n K:=by kernel_rfl
def Ja2 (C:CT) (a0 a1 a2:Value) (g:G) (n:Nat) (K:Cont):Prop:=
Jl a2 fun c5=>
Qv c5 .exact g n fun l5 g1 n5=>
C JP [a0,a1] g1 n5 fun v10 g2 n10=>
Xb .int .neq v10 (.int .i64 0) fun v12=>
Qa v12 (
Xc K v10 g2 n10) (
Jm a0 fun v15=>
Jd v15 fun l16 o16=>
C Zu [(ptr l16 (o16+3)),.int .i64 1] g2 n10 fun v17 g3 n17=>
Jm a0 fun v19=>
Jd v19 fun l20 o20=>
kLd g3 l20 (o20+0) fun v21=>
Xl g3 l5 0 8 fun c23=>
Zc v21 a1 8 fun v24=>
Jd v24 fun lg4 og4=>
Jl (.agg c23.toArray) fun cg4=>
cg4.length=8∧Qs g3 lg4 og4 cg4 fun g4=>
Xc K (.int .i64 0) g4 n17)
theorem Qbv (C:CT) (a0 a1 a2:Value) (g:G) (n:Nat) (K:Cont):Ja2 C a0 a1 a2 g n K=Xg Tryz.prog C ZT [a0,a1,a2] g n K:=by kernel_rfl
def XY (C:CT) (K:Cont) (t:Env) (g:G) (n:Nat):Prop:=
Xb .int .lss (t 9) (.int .i64 0) fun v36=>
Qa v36 (
Xc K (.int .i64 13) g n) (
Jd (t 7) fun l41 o41=>
Xl g l41 o41 8 fun c41=>
C ZL [t 0] g n fun v43 g5 n43=>
(Jd (t 7) fun l _=>g5 l=g l)∧Jh [.int .i64 0,.int .i64 0,.int .u64 0,.int .u64 0,.int .u64 0,.int .u64 0,.int .u64 0,.int .u64 0,.int .u64 0,.int .u64 0,.int .i64 0] [(0,none,t 2),(1,none,t 1),(2,some 8,.agg c41.toArray),(10,none,v43)] fun c44=>
Zc (t 10) (t 9) 11 fun v45=>
Jd v45 fun lg6 og6=>
Jl (.agg c44.toArray) fun cg6=>
cg6.length=11∧Qs g5 lg6 og6 cg6 fun g6=>
Xc K (.int .i64 0) g6 n43)
def Qbf (C:CT) (a0 a1 a2 a3:Value) (g:G) (n:Nat) (K:Cont):Prop:=
Jl a3 fun c7=>
Qv c7 .exact g n fun l7 g1 n7=>
Xb .ptr .eql a0 (.pointer none) fun v12=>
Qa v12 (
Xc K (.int .i64 1) g1 n7) (
Xb .int .lss a1 (.int .i64 0) fun v15=>
Qa v15 (
Xc K (.int .i64 1) g1 n7) (
Xb .int .lss a2 (.int .i64 1) fun v19=>
Qa v19 (
Xc K (.int .i64 1) g1 n7) (
Xb .int .gtr a2 (.int .i64 9) fun v23=>
Qa v23 (
Xc K (.int .i64 1) g1 n7) (
C QF [a0,a1] g1 n7 fun v27 g2 n27=>
C Qt [a0,a1] g2 n27 fun v30 g3 n30=>
Xb .int .lss v27 (.int .i64 0) fun v32=>
Qa v32 (
C Zg [v30,(.func (.func Qap) #[] #[])] g3 n30 fun v34 g4 n34=>
XY C K (puts (Jq [a0,a1,a2,a3]) [(7,ptr l7 0),(8,.int .i64 0),(11,a0),(12,v12),(13,.bool false),(14,a1),(15,v15),(16,v15),(17,.bool false),(18,a2),(19,v19),(20,v19),(21,.bool false),(22,a2),(23,v23),(24,v23),(25,a0),(26,a1),(27,v27),(28,a0),(29,a1),(30,v30),(9,v27),(10,v30),(31,v27),(32,v32),(33,v30),(34,v34),(9,v34)]) g4 n34) (
XY C K (puts (Jq [a0,a1,a2,a3]) [(7,ptr l7 0),(8,.int .i64 0),(11,a0),(12,v12),(13,.bool false),(14,a1),(15,v15),(16,v15),(17,.bool false),(18,a2),(19,v19),(20,v19),(21,.bool false),(22,a2),(23,v23),(24,v23),(25,a0),(26,a1),(27,v27),(28,a0),(29,a1),(30,v30),(9,v27),(10,v30),(31,v27),(32,v32)]) g3 n30)))))
theorem XbJ (C:CT) (a0 a1 a2 a3:Value) (g:G) (n:Nat) (K:Cont):Qbf C a0 a1 a2 a3 g n K=Xg Tryz.prog C JB [a0,a1,a2,a3] g n K:=by kernel_rfl
def ZbF (C:CT) (a0:Value) (g:G) (n:Nat) (K:Cont):Prop:=
Xb .ptr .eql a0 (.pointer none) fun v4=>
Qa v4 (
Xc K (.int .i64 0) g n) (
Jm a0 fun v6=>
Jd v6 fun l7 o7=>
kLd g l7 (o7+0) fun v8=>
JaF v8 fun v9=>
Xc K v9 g n)
theorem Jb3 (C:CT) (a0:Value) (g:G) (n:Nat) (K:Cont):ZbF C a0 g n K=Xg Tryz.prog C Qac [a0] g n K:=by kernel_rfl
def Qci (C:CT) (K:Cont) (t:Env) (g:G) (n:Nat):Prop:=
Qa (t 87) (
Jd (t 1) fun l90 o90=>
kLd g l90 (o90+13) fun v91=>
C Zam [v91] g n fun v92 g4 n92=>
Xc K v92 g4 n92) (
Xc K (.bool false) g n)
def QC (C:CT) (K:Cont) (t:Env) (g:G) (n:Nat):Prop:=
Qa (t 76) (
Jd (t 1) fun l79 o79=>
kLd g l79 (o79+13) fun v80=>
C Zam [v80] g n fun v81 g3 n81=>
Qa v81 (
Jd (t 1) fun l83 o83=>
kLd g3 l83 (o83+14) fun v84=>
Xb .int .neq v84 (.int .u8 0) fun v85=>
Xc K v85 g3 n81) (
Xc K (.bool false) g3 n81)) (
Xb .int .eql (t 65) (.int .i64 4) fun v88=>
Qa v88 (
Qci C K (puts t [(88,v88),(87,v88)]) g n) (
Xb .int .eql (t 65) (.int .i64 5) fun v89=>
Qci C K (puts t [(88,v88),(87,v88),(89,v89),(87,v89)]) g n))
def QdN (C:CT) (a0:Value) (g:G) (n:Nat) (K:Cont):Prop:=
Jl a0 fun c1=>
Qv c1 .exact g n fun l1 g1 n1=>
kLd g1 l1 (0+10) fun v5=>
Xb .int .geq v5 (.int .i64 0) fun v6=>
Qa v6 (
kLd g1 l1 (0+10) fun v14=>
Xb .int .lss v14 (.int .i64 (-1)) fun v15=>
Qa v15 (
Xc K (.bool false) g1 n1) (
kLd g1 l1 (0+10) fun v18=>
Xb .int .geq v18 (.int .i64 8) fun v19=>
Qa v19 (
Xc K (.bool false) g1 n1) (
kLd g1 l1 (0+10) fun v23=>
Xb .int .geq v23 (.int .i64 0) fun v24=>
Qa v24 (
kLd g1 l1 (0+11) fun v27=>
Xb .int .neq v27 (.int .u8 0) fun v28=>
Qa v28 (
Xc K (.bool false) g1 n1) (
kLd g1 l1 (0+0) fun v33=>
kUn .not v33 fun v34=>
Qa v34 (
kLd g1 l1 (0+1) fun v37=>
Qa v37 (
Xc K (.bool false) g1 n1) (
Xc K (.bool false) g1 n1)) (
kLd g1 l1 (0+14) fun v55=>
kLd g1 l1 (0+11) fun v57=>
kLd g1 l1 (0+10) fun v59=>
C Qq [v59] g1 n1 fun v60 g2 n60=>
(Jd (ptr l1 (0+14)) fun l _=>g2 l=g1 l)∧(Jd (ptr l1 (0+11)) fun l _=>g2 l=g1 l)∧Xb .int .or v57 v60 fun v61=>
Xb .int .andNot v55 v61 fun v62=>
Xb .int .neq v62 (.int .u8 0) fun v63=>
Qa v63 (
Xc K (.bool false) g2 n60) (
kLd g2 l1 (0+12) fun v65=>
Xb .int .eql v65 (.int .i64 0) fun v67=>
Qa v67 (
kLd g2 l1 (0+13) fun v69=>
Xb .int .eql v69 (.int .i64 0) fun v70=>
Qa v70 (
kLd g2 l1 (0+14) fun v73=>
Xb .int .eql v73 (.int .u8 0) fun v74=>
Xc K v74 g2 n60) (
Xc K (.bool false) g2 n60)) (
Xb .int .eql v65 (.int .i64 1) fun v77=>
Qa v77 (
QC C K (puts (Jq [a0]) [(1,ptr l1 0),(2,.bool false),(4,(ptr l1 (0+10))),(5,v5),(6,v6),(7,.bool true),(8,undef),(9,undef),(10,undef),(11,.bool true),(3,.bool true),(13,(ptr l1 (0+10))),(14,v14),(15,v15),(16,.bool false),(17,(ptr l1 (0+10))),(18,v18),(19,v19),(20,v19),(21,.bool false),(22,(ptr l1 (0+10))),(23,v23),(24,v24),(25,.bool true),(26,(ptr l1 (0+11))),(27,v27),(28,v28),(29,v28),(30,v28),(12,v28),(32,(ptr l1 (0+0))),(33,v33),(34,v34),(35,.bool false),(36,undef),(37,undef),(38,undef),(39,undef),(40,undef),(41,undef),(42,undef),(43,undef),(44,undef),(45,undef),(46,undef),(47,undef),(48,undef),(49,undef),(50,undef),(51,undef),(52,.bool false),(31,.bool false),(54,(ptr l1 (0+14))),(55,v55),(56,(ptr l1 (0+11))),(57,v57),(58,(ptr l1 (0+10))),(59,v59),(60,v60),(61,v61),(62,v62),(63,v63),(53,v63),(64,(ptr l1 (0+12))),(65,v65),(67,v67),(66,v67),(77,v77),(76,v77)]) g2 n60) (
Xb .int .eql v65 (.int .i64 2) fun v78=>
QC C K (puts (Jq [a0]) [(1,ptr l1 0),(2,.bool false),(4,(ptr l1 (0+10))),(5,v5),(6,v6),(7,.bool true),(8,undef),(9,undef),(10,undef),(11,.bool true),(3,.bool true),(13,(ptr l1 (0+10))),(14,v14),(15,v15),(16,.bool false),(17,(ptr l1 (0+10))),(18,v18),(19,v19),(20,v19),(21,.bool false),(22,(ptr l1 (0+10))),(23,v23),(24,v24),(25,.bool true),(26,(ptr l1 (0+11))),(27,v27),(28,v28),(29,v28),(30,v28),(12,v28),(32,(ptr l1 (0+0))),(33,v33),(34,v34),(35,.bool false),(36,undef),(37,undef),(38,undef),(39,undef),(40,undef),(41,undef),(42,undef),(43,undef),(44,undef),(45,undef),(46,undef),(47,undef),(48,undef),(49,undef),(50,undef),(51,undef),(52,.bool false),(31,.bool false),(54,(ptr l1 (0+14))),(55,v55),(56,(ptr l1 (0+11))),(57,v57),(58,(ptr l1 (0+10))),(59,v59),(60,v60),(61,v61),(62,v62),(63,v63),(53,v63),(64,(ptr l1 (0+12))),(65,v65),(67,v67),(66,v67),(77,v77),(76,v77),(78,v78),(76,v78)]) g2 n60)))))) (
kLd g1 l1 (0+0) fun v33=>
kUn .not v33 fun v34=>
Qa v34 (
kLd g1 l1 (0+1) fun v37=>
Qa v37 (
Xc K (.bool false) g1 n1) (
Xc K (.bool false) g1 n1)) (
kLd g1 l1 (0+14) fun v55=>
kLd g1 l1 (0+11) fun v57=>
kLd g1 l1 (0+10) fun v59=>
C Qq [v59] g1 n1 fun v60 g5 n60=>
(Jd (ptr l1 (0+14)) fun l _=>g5 l=g1 l)∧(Jd (ptr l1 (0+11)) fun l _=>g5 l=g1 l)∧Xb .int .or v57 v60 fun v61=>
Xb .int .andNot v55 v61 fun v62=>
Xb .int .neq v62 (.int .u8 0) fun v63=>
Qa v63 (
Xc K (.bool false) g5 n60) (
kLd g5 l1 (0+12) fun v65=>
Xb .int .eql v65 (.int .i64 0) fun v67=>
Qa v67 (
kLd g5 l1 (0+13) fun v69=>
Xb .int .eql v69 (.int .i64 0) fun v70=>
Qa v70 (
kLd g5 l1 (0+14) fun v73=>
Xb .int .eql v73 (.int .u8 0) fun v74=>
Xc K v74 g5 n60) (
Xc K (.bool false) g5 n60)) (
Xb .int .eql v65 (.int .i64 1) fun v77=>
Qa v77 (
QC C K (puts (Jq [a0]) [(1,ptr l1 0),(2,.bool false),(4,(ptr l1 (0+10))),(5,v5),(6,v6),(7,.bool true),(8,undef),(9,undef),(10,undef),(11,.bool true),(3,.bool true),(13,(ptr l1 (0+10))),(14,v14),(15,v15),(16,.bool false),(17,(ptr l1 (0+10))),(18,v18),(19,v19),(20,v19),(21,.bool false),(22,(ptr l1 (0+10))),(23,v23),(24,v24),(25,.bool false),(26,undef),(27,undef),(28,undef),(29,.bool false),(30,.bool false),(12,.bool false),(32,(ptr l1 (0+0))),(33,v33),(34,v34),(35,.bool false),(36,undef),(37,undef),(38,undef),(39,undef),(40,undef),(41,undef),(42,undef),(43,undef),(44,undef),(45,undef),(46,undef),(47,undef),(48,undef),(49,undef),(50,undef),(51,undef),(52,.bool false),(31,.bool false),(54,(ptr l1 (0+14))),(55,v55),(56,(ptr l1 (0+11))),(57,v57),(58,(ptr l1 (0+10))),(59,v59),(60,v60),(61,v61),(62,v62),(63,v63),(53,v63),(64,(ptr l1 (0+12))),(65,v65),(67,v67),(66,v67),(77,v77),(76,v77)]) g5 n60) (
Xb .int .eql v65 (.int .i64 2) fun v78=>
QC C K (puts (Jq [a0]) [(1,ptr l1 0),(2,.bool false),(4,(ptr l1 (0+10))),(5,v5),(6,v6),(7,.bool true),(8,undef),(9,undef),(10,undef),(11,.bool true),(3,.bool true),(13,(ptr l1 (0+10))),(14,v14),(15,v15),(16,.bool false),(17,(ptr l1 (0+10))),(18,v18),(19,v19),(20,v19),(21,.bool false),(22,(ptr l1 (0+10))),(23,v23),(24,v24),(25,.bool false),(26,undef),(27,undef),(28,undef),(29,.bool false),(30,.bool false),(12,.bool false),(32,(ptr l1 (0+0))),(33,v33),(34,v34),(35,.bool false),(36,undef),(37,undef),(38,undef),(39,undef),(40,undef),(41,undef),(42,undef),(43,undef),(44,undef),(45,undef),(46,undef),(47,undef),(48,undef),(49,undef),(50,undef),(51,undef),(52,.bool false),(31,.bool false),(54,(ptr l1 (0+14))),(55,v55),(56,(ptr l1 (0+11))),(57,v57),(58,(ptr l1 (0+10))),(59,v59),(60,v60),(61,v61),(62,v62),(63,v63),(53,v63),(64,(ptr l1 (0+12))),(65,v65),(67,v67),(66,v67),(77,v77),(76,v77),(78,v78),(76,v78)]) g5 n60)))))))) (
kLd g1 l1 (0+11) fun v9=>
Xb .int .neq v9 (.int .u8 0) fun v10=>
kLd g1 l1 (0+10) fun v14=>
Xb .int .lss v14 (.int .i64 (-1)) fun v15=>
Qa v15 (
Xc K (.bool false) g1 n1) (
kLd g1 l1 (0+10) fun v18=>
Xb .int .geq v18 (.int .i64 8) fun v19=>
Qa v19 (
Xc K (.bool false) g1 n1) (
kLd g1 l1 (0+10) fun v23=>
Xb .int .geq v23 (.int .i64 0) fun v24=>
Qa v24 (
kLd g1 l1 (0+11) fun v27=>
Xb .int .neq v27 (.int .u8 0) fun v28=>
Qa v28 (
Xc K (.bool false) g1 n1) (
kLd g1 l1 (0+0) fun v33=>
kUn .not v33 fun v34=>
Qa v34 (
kLd g1 l1 (0+1) fun v37=>
Qa v37 (
Xc K (.bool false) g1 n1) (
Qa v10 (
Xc K (.bool false) g1 n1) (
kLd g1 l1 (0+12) fun v43=>
Xb .int .neq v43 (.int .i64 0) fun v44=>
Qa v44 (
Xc K (.bool false) g1 n1) (
Xl g1 l1 (0+2) 8 fun c48=>
Jh [.int .u64 0,.int .u64 0,.int .u64 0,.int .u64 0,.int .u64 0,.int .u64 0,.int .u64 0,.int .u64 0] [] fun c49=>
Xb (.agg [.i,.i,.i,.i,.i,.i,.i,.i]) .neq (.agg c48.toArray) (.agg c49.toArray) fun v50=>
Qa v50 (
Xc K (.bool false) g1 n1) (
kLd g1 l1 (0+14) fun v55=>
kLd g1 l1 (0+11) fun v57=>
kLd g1 l1 (0+10) fun v59=>
C Qq [v59] g1 n1 fun v60 g6 n60=>
(Jd (ptr l1 (0+14)) fun l _=>g6 l=g1 l)∧(Jd (ptr l1 (0+11)) fun l _=>g6 l=g1 l)∧Xb .int .or v57 v60 fun v61=>
Xb .int .andNot v55 v61 fun v62=>
Xb .int .neq v62 (.int .u8 0) fun v63=>
Qa v63 (
Xc K (.bool false) g6 n60) (
kLd g6 l1 (0+12) fun v65=>
Xb .int .eql v65 (.int .i64 0) fun v67=>
Qa v67 (
kLd g6 l1 (0+13) fun v69=>
Xb .int .eql v69 (.int .i64 0) fun v70=>
Qa v70 (
kLd g6 l1 (0+14) fun v73=>
Xb .int .eql v73 (.int .u8 0) fun v74=>
Xc K v74 g6 n60) (
Xc K (.bool false) g6 n60)) (
Xb .int .eql v65 (.int .i64 1) fun v77=>
Qa v77 (
QC C K (puts (Jq [a0]) [(1,ptr l1 0),(2,.bool false),(4,(ptr l1 (0+10))),(5,v5),(6,v6),(7,.bool false),(8,(ptr l1 (0+11))),(9,v9),(10,v10),(11,v10),(3,v10),(13,(ptr l1 (0+10))),(14,v14),(15,v15),(16,.bool false),(17,(ptr l1 (0+10))),(18,v18),(19,v19),(20,v19),(21,.bool false),(22,(ptr l1 (0+10))),(23,v23),(24,v24),(25,.bool true),(26,(ptr l1 (0+11))),(27,v27),(28,v28),(29,v28),(30,v28),(12,v28),(32,(ptr l1 (0+0))),(33,v33),(34,v34),(35,.bool true),(36,(ptr l1 (0+1))),(37,v37),(38,.bool false),(39,v10),(40,v10),(41,.bool false),(42,(ptr l1 (0+12))),(43,v43),(44,v44),(45,v44),(46,.bool false),(47,(ptr l1 (0+2))),(48,.agg c48.toArray),(49,.agg c49.toArray),(50,v50),(51,v50),(52,v50),(31,v50),(54,(ptr l1 (0+14))),(55,v55),(56,(ptr l1 (0+11))),(57,v57),(58,(ptr l1 (0+10))),(59,v59),(60,v60),(61,v61),(62,v62),(63,v63),(53,v63),(64,(ptr l1 (0+12))),(65,v65),(67,v67),(66,v67),(77,v77),(76,v77)]) g6 n60) (
Xb .int .eql v65 (.int .i64 2) fun v78=>
QC C K (puts (Jq [a0]) [(1,ptr l1 0),(2,.bool false),(4,(ptr l1 (0+10))),(5,v5),(6,v6),(7,.bool false),(8,(ptr l1 (0+11))),(9,v9),(10,v10),(11,v10),(3,v10),(13,(ptr l1 (0+10))),(14,v14),(15,v15),(16,.bool false),(17,(ptr l1 (0+10))),(18,v18),(19,v19),(20,v19),(21,.bool false),(22,(ptr l1 (0+10))),(23,v23),(24,v24),(25,.bool true),(26,(ptr l1 (0+11))),(27,v27),(28,v28),(29,v28),(30,v28),(12,v28),(32,(ptr l1 (0+0))),(33,v33),(34,v34),(35,.bool true),(36,(ptr l1 (0+1))),(37,v37),(38,.bool false),(39,v10),(40,v10),(41,.bool false),(42,(ptr l1 (0+12))),(43,v43),(44,v44),(45,v44),(46,.bool false),(47,(ptr l1 (0+2))),(48,.agg c48.toArray),(49,.agg c49.toArray),(50,v50),(51,v50),(52,v50),(31,v50),(54,(ptr l1 (0+14))),(55,v55),(56,(ptr l1 (0+11))),(57,v57),(58,(ptr l1 (0+10))),(59,v59),(60,v60),(61,v61),(62,v62),(63,v63),(53,v63),(64,(ptr l1 (0+12))),(65,v65),(67,v67),(66,v67),(77,v77),(76,v77),(78,v78),(76,v78)]) g6 n60)))))))) (
kLd g1 l1 (0+14) fun v55=>
kLd g1 l1 (0+11) fun v57=>
kLd g1 l1 (0+10) fun v59=>
C Qq [v59] g1 n1 fun v60 g7 n60=>
(Jd (ptr l1 (0+14)) fun l _=>g7 l=g1 l)∧(Jd (ptr l1 (0+11)) fun l _=>g7 l=g1 l)∧Xb .int .or v57 v60 fun v61=>
Xb .int .andNot v55 v61 fun v62=>
Xb .int .neq v62 (.int .u8 0) fun v63=>
Qa v63 (
Xc K (.bool false) g7 n60) (
kLd g7 l1 (0+12) fun v65=>
Xb .int .eql v65 (.int .i64 0) fun v67=>
Qa v67 (
kLd g7 l1 (0+13) fun v69=>
Xb .int .eql v69 (.int .i64 0) fun v70=>
Qa v70 (
kLd g7 l1 (0+14) fun v73=>
Xb .int .eql v73 (.int .u8 0) fun v74=>
Xc K v74 g7 n60) (
Xc K (.bool false) g7 n60)) (
Xb .int .eql v65 (.int .i64 1) fun v77=>
Qa v77 (
QC C K (puts (Jq [a0]) [(1,ptr l1 0),(2,.bool false),(4,(ptr l1 (0+10))),(5,v5),(6,v6),(7,.bool false),(8,(ptr l1 (0+11))),(9,v9),(10,v10),(11,v10),(3,v10),(13,(ptr l1 (0+10))),(14,v14),(15,v15),(16,.bool false),(17,(ptr l1 (0+10))),(18,v18),(19,v19),(20,v19),(21,.bool false),(22,(ptr l1 (0+10))),(23,v23),(24,v24),(25,.bool true),(26,(ptr l1 (0+11))),(27,v27),(28,v28),(29,v28),(30,v28),(12,v28),(32,(ptr l1 (0+0))),(33,v33),(34,v34),(35,.bool false),(36,undef),(37,undef),(38,undef),(39,undef),(40,undef),(41,undef),(42,undef),(43,undef),(44,undef),(45,undef),(46,undef),(47,undef),(48,undef),(49,undef),(50,undef),(51,undef),(52,.bool false),(31,.bool false),(54,(ptr l1 (0+14))),(55,v55),(56,(ptr l1 (0+11))),(57,v57),(58,(ptr l1 (0+10))),(59,v59),(60,v60),(61,v61),(62,v62),(63,v63),(53,v63),(64,(ptr l1 (0+12))),(65,v65),(67,v67),(66,v67),(77,v77),(76,v77)]) g7 n60) (
Xb .int .eql v65 (.int .i64 2) fun v78=>
QC C K (puts (Jq [a0]) [(1,ptr l1 0),(2,.bool false),(4,(ptr l1 (0+10))),(5,v5),(6,v6),(7,.bool false),(8,(ptr l1 (0+11))),(9,v9),(10,v10),(11,v10),(3,v10),(13,(ptr l1 (0+10))),(14,v14),(15,v15),(16,.bool false),(17,(ptr l1 (0+10))),(18,v18),(19,v19),(20,v19),(21,.bool false),(22,(ptr l1 (0+10))),(23,v23),(24,v24),(25,.bool true),(26,(ptr l1 (0+11))),(27,v27),(28,v28),(29,v28),(30,v28),(12,v28),(32,(ptr l1 (0+0))),(33,v33),(34,v34),(35,.bool false),(36,undef),(37,undef),(38,undef),(39,undef),(40,undef),(41,undef),(42,undef),(43,undef),(44,undef),(45,undef),(46,undef),(47,undef),(48,undef),(49,undef),(50,undef),(51,undef),(52,.bool false),(31,.bool false),(54,(ptr l1 (0+14))),(55,v55),(56,(ptr l1 (0+11))),(57,v57),(58,(ptr l1 (0+10))),(59,v59),(60,v60),(61,v61),(62,v62),(63,v63),(53,v63),(64,(ptr l1 (0+12))),(65,v65),(67,v67),(66,v67),(77,v77),(76,v77),(78,v78),(76,v78)]) g7 n60)))))) (
kLd g1 l1 (0+0) fun v33=>
kUn .not v33 fun v34=>
Qa v34 (
kLd g1 l1 (0+1) fun v37=>
Qa v37 (
Xc K (.bool false) g1 n1) (
Qa v10 (
Xc K (.bool false) g1 n1) (
kLd g1 l1 (0+12) fun v43=>
Xb .int .neq v43 (.int .i64 0) fun v44=>
Qa v44 (
Xc K (.bool false) g1 n1) (
Xl g1 l1 (0+2) 8 fun c48=>
Jh [.int .u64 0,.int .u64 0,.int .u64 0,.int .u64 0,.int .u64 0,.int .u64 0,.int .u64 0,.int .u64 0] [] fun c49=>
Xb (.agg [.i,.i,.i,.i,.i,.i,.i,.i]) .neq (.agg c48.toArray) (.agg c49.toArray) fun v50=>
Qa v50 (
Xc K (.bool false) g1 n1) (
kLd g1 l1 (0+14) fun v55=>
kLd g1 l1 (0+11) fun v57=>
kLd g1 l1 (0+10) fun v59=>
C Qq [v59] g1 n1 fun v60 g8 n60=>
(Jd (ptr l1 (0+14)) fun l _=>g8 l=g1 l)∧(Jd (ptr l1 (0+11)) fun l _=>g8 l=g1 l)∧Xb .int .or v57 v60 fun v61=>
Xb .int .andNot v55 v61 fun v62=>
Xb .int .neq v62 (.int .u8 0) fun v63=>
Qa v63 (
Xc K (.bool false) g8 n60) (
kLd g8 l1 (0+12) fun v65=>
Xb .int .eql v65 (.int .i64 0) fun v67=>
Qa v67 (
kLd g8 l1 (0+13) fun v69=>
Xb .int .eql v69 (.int .i64 0) fun v70=>
Qa v70 (
kLd g8 l1 (0+14) fun v73=>
Xb .int .eql v73 (.int .u8 0) fun v74=>
Xc K v74 g8 n60) (
Xc K (.bool false) g8 n60)) (
Xb .int .eql v65 (.int .i64 1) fun v77=>
Qa v77 (
QC C K (puts (Jq [a0]) [(1,ptr l1 0),(2,.bool false),(4,(ptr l1 (0+10))),(5,v5),(6,v6),(7,.bool false),(8,(ptr l1 (0+11))),(9,v9),(10,v10),(11,v10),(3,v10),(13,(ptr l1 (0+10))),(14,v14),(15,v15),(16,.bool false),(17,(ptr l1 (0+10))),(18,v18),(19,v19),(20,v19),(21,.bool false),(22,(ptr l1 (0+10))),(23,v23),(24,v24),(25,.bool false),(26,undef),(27,undef),(28,undef),(29,.bool false),(30,.bool false),(12,.bool false),(32,(ptr l1 (0+0))),(33,v33),(34,v34),(35,.bool true),(36,(ptr l1 (0+1))),(37,v37),(38,.bool false),(39,v10),(40,v10),(41,.bool false),(42,(ptr l1 (0+12))),(43,v43),(44,v44),(45,v44),(46,.bool false),(47,(ptr l1 (0+2))),(48,.agg c48.toArray),(49,.agg c49.toArray),(50,v50),(51,v50),(52,v50),(31,v50),(54,(ptr l1 (0+14))),(55,v55),(56,(ptr l1 (0+11))),(57,v57),(58,(ptr l1 (0+10))),(59,v59),(60,v60),(61,v61),(62,v62),(63,v63),(53,v63),(64,(ptr l1 (0+12))),(65,v65),(67,v67),(66,v67),(77,v77),(76,v77)]) g8 n60) (
Xb .int .eql v65 (.int .i64 2) fun v78=>
QC C K (puts (Jq [a0]) [(1,ptr l1 0),(2,.bool false),(4,(ptr l1 (0+10))),(5,v5),(6,v6),(7,.bool false),(8,(ptr l1 (0+11))),(9,v9),(10,v10),(11,v10),(3,v10),(13,(ptr l1 (0+10))),(14,v14),(15,v15),(16,.bool false),(17,(ptr l1 (0+10))),(18,v18),(19,v19),(20,v19),(21,.bool false),(22,(ptr l1 (0+10))),(23,v23),(24,v24),(25,.bool false),(26,undef),(27,undef),(28,undef),(29,.bool false),(30,.bool false),(12,.bool false),(32,(ptr l1 (0+0))),(33,v33),(34,v34),(35,.bool true),(36,(ptr l1 (0+1))),(37,v37),(38,.bool false),(39,v10),(40,v10),(41,.bool false),(42,(ptr l1 (0+12))),(43,v43),(44,v44),(45,v44),(46,.bool false),(47,(ptr l1 (0+2))),(48,.agg c48.toArray),(49,.agg c49.toArray),(50,v50),(51,v50),(52,v50),(31,v50),(54,(ptr l1 (0+14))),(55,v55),(56,(ptr l1 (0+11))),(57,v57),(58,(ptr l1 (0+10))),(59,v59),(60,v60),(61,v61),(62,v62),(63,v63),(53,v63),(64,(ptr l1 (0+12))),(65,v65),(67,v67),(66,v67),(77,v77),(76,v77),(78,v78),(76,v78)]) g8 n60)))))))) (
kLd g1 l1 (0+14) fun v55=>
kLd g1 l1 (0+11) fun v57=>
kLd g1 l1 (0+10) fun v59=>
C Qq [v59] g1 n1 fun v60 g9 n60=>
(Jd (ptr l1 (0+14)) fun l _=>g9 l=g1 l)∧(Jd (ptr l1 (0+11)) fun l _=>g9 l=g1 l)∧Xb .int .or v57 v60 fun v61=>
Xb .int .andNot v55 v61 fun v62=>
Xb .int .neq v62 (.int .u8 0) fun v63=>
Qa v63 (
Xc K (.bool false) g9 n60) (
kLd g9 l1 (0+12) fun v65=>
Xb .int .eql v65 (.int .i64 0) fun v67=>
Qa v67 (
kLd g9 l1 (0+13) fun v69=>
Xb .int .eql v69 (.int .i64 0) fun v70=>
Qa v70 (
kLd g9 l1 (0+14) fun v73=>
Xb .int .eql v73 (.int .u8 0) fun v74=>
Xc K v74 g9 n60) (
Xc K (.bool false) g9 n60)) (
Xb .int .eql v65 (.int .i64 1) fun v77=>
Qa v77 (
QC C K (puts (Jq [a0]) [(1,ptr l1 0),(2,.bool false),(4,(ptr l1 (0+10))),(5,v5),(6,v6),(7,.bool false),(8,(ptr l1 (0+11))),(9,v9),(10,v10),(11,v10),(3,v10),(13,(ptr l1 (0+10))),(14,v14),(15,v15),(16,.bool false),(17,(ptr l1 (0+10))),(18,v18),(19,v19),(20,v19),(21,.bool false),(22,(ptr l1 (0+10))),(23,v23),(24,v24),(25,.bool false),(26,undef),(27,undef),(28,undef),(29,.bool false),(30,.bool false),(12,.bool false),(32,(ptr l1 (0+0))),(33,v33),(34,v34),(35,.bool false),(36,undef),(37,undef),(38,undef),(39,undef),(40,undef),(41,undef),(42,undef),(43,undef),(44,undef),(45,undef),(46,undef),(47,undef),(48,undef),(49,undef),(50,undef),(51,undef),(52,.bool false),(31,.bool false),(54,(ptr l1 (0+14))),(55,v55),(56,(ptr l1 (0+11))),(57,v57),(58,(ptr l1 (0+10))),(59,v59),(60,v60),(61,v61),(62,v62),(63,v63),(53,v63),(64,(ptr l1 (0+12))),(65,v65),(67,v67),(66,v67),(77,v77),(76,v77)]) g9 n60) (
Xb .int .eql v65 (.int .i64 2) fun v78=>
QC C K (puts (Jq [a0]) [(1,ptr l1 0),(2,.bool false),(4,(ptr l1 (0+10))),(5,v5),(6,v6),(7,.bool false),(8,(ptr l1 (0+11))),(9,v9),(10,v10),(11,v10),(3,v10),(13,(ptr l1 (0+10))),(14,v14),(15,v15),(16,.bool false),(17,(ptr l1 (0+10))),(18,v18),(19,v19),(20,v19),(21,.bool false),(22,(ptr l1 (0+10))),(23,v23),(24,v24),(25,.bool false),(26,undef),(27,undef),(28,undef),(29,.bool false),(30,.bool false),(12,.bool false),(32,(ptr l1 (0+0))),(33,v33),(34,v34),(35,.bool false),(36,undef),(37,undef),(38,undef),(39,undef),(40,undef),(41,undef),(42,undef),(43,undef),(44,undef),(45,undef),(46,undef),(47,undef),(48,undef),(49,undef),(50,undef),(51,undef),(52,.bool false),(31,.bool false),(54,(ptr l1 (0+14))),(55,v55),(56,(ptr l1 (0+11))),(57,v57),(58,(ptr l1 (0+10))),(59,v59),(60,v60),(61,v61),(62,v62),(63,v63),(53,v63),(64,(ptr l1 (0+12))),(65,v65),(67,v67),(66,v67),(77,v77),(76,v77),(78,v78),(76,v78)]) g9 n60))))))))
theorem ZdD (C:CT) (a0:Value) (g:G) (n:Nat) (K:Cont):QdN C a0 g n K=Xg Tryz.prog C JaB [a0] g n K:=by kernel_rfl
def QdV (C:CT) (a0:Value) (g:G) (n:Nat) (K:Cont):Prop:=
Xb .int .geq a0 (.int .i64 0) fun v4=>
Qa v4 (
Xb .int .lss a0 (.int .i64 8) fun v7=>
Xc K v7 g n) (
Xc K (.bool false) g n)
theorem Xdt (C:CT) (a0:Value) (g:G) (n:Nat) (K:Cont):QdV C a0 g n K=Xg Tryz.prog C Zam [a0] g n K:=by kernel_rfl
def XdP (C:CT) (a0:Value) (g:G) (n:Nat) (K:Cont):Prop:=
Xb .int .geq a0 (.int .i64 1) fun v4=>
Qa v4 (
Xb .int .leq a0 (.int .i64 5) fun v7=>
Xc K v7 g n) (
Xc K (.bool false) g n)
theorem Jdq (C:CT) (a0:Value) (g:G) (n:Nat) (K:Cont):XdP C a0 g n K=Xg Tryz.prog C Jbv [a0] g n K:=by kernel_rfl
def QdR (C:CT) (g:G) (n:Nat) (K:Cont):Prop:=
Qv [.nilFunc,.nilFunc,.nilFunc,.nilFunc,.nilFunc,.nilFunc] .exact g n fun l0 g1 n0=>
Jh [.nilFunc,.nilFunc,.nilFunc,.nilFunc,.nilFunc,.nilFunc] [(1,none,(.func (.func Zac) #[] #[])),(2,none,(.func (.func Xab) #[] #[])),(3,none,(.func (.func Jaj) #[] #[])),(4,none,(.func (.func X5) #[] #[])),(5,none,(.func (.func Jaa) #[] #[]))] fun c1=>
Jl (.agg c1.toArray) fun cg2=>
cg2.length=6∧Qs g1 l0 0 cg2 fun g2=>
Xl g2 l0 0 6 fun r0=>
Xc K (.agg r0.toArray) g2 n0
theorem XdG (C:CT) (g:G) (n:Nat) (K:Cont):QdR C g n K=Xg Tryz.prog C Jbw [] g n K:=by kernel_rfl
def Xdk (C:CT) (a0:Value) (g:G) (n:Nat) (K:Cont):Prop:=
Xb .int .geq a0 (.int .i64 8) fun v4=>
Qa v4 (
Xb .int .leq a0 (.int .i64 14) fun v7=>
Xc K v7 g n) (
Xc K (.bool false) g n)
theorem Jdl (C:CT) (a0:Value) (g:G) (n:Nat) (K:Cont):Xdk C a0 g n K=Xg Tryz.prog C Xa6 [a0] g n K:=by kernel_rfl
def JR (C:CT) (K:Cont) (t:Env) (g:G) (n:Nat):Prop:=
Xb .int .geq (t 5) (.int .i64 0) fun v18=>
Xc K v18 g n
def Ja1 (C:CT) (a0 a1:Value) (g:G) (n:Nat) (K:Cont):Prop:=
C QF [a0,a1] g n fun v8 g1 n8=>
Xb .int .geq v8 (.int .i64 0) fun v10=>
Qa v10 (
C Qt [a0,a1] g1 n8 fun v13 g2 n13=>
Jh [.int .i64 0,.int .i64 0,.int .u64 0,.int .u64 0,.int .u64 0,.int .u64 0,.int .u64 0,.int .u64 0,.int .u64 0,.int .u64 0,.int .i64 0] [] fun c15=>
Zc v13 v8 11 fun v16=>
Jd v16 fun lg3 og3=>
Jl (.agg c15.toArray) fun cg3=>
cg3.length=11∧Qs g2 lg3 og3 cg3 fun g3=>
JR C K (puts (Jq [a0,a1]) [(4,.bool false),(6,a0),(7,a1),(8,v8),(5,v8),(9,v8),(10,v10),(11,a0),(12,a1),(13,v13),(14,v8),(15,.agg c15.toArray),(16,v16)]) g3 n13) (
JR C K (puts (Jq [a0,a1]) [(4,.bool false),(6,a0),(7,a1),(8,v8),(5,v8),(9,v8),(10,v10)]) g1 n8)
theorem Xbt (C:CT) (a0 a1:Value) (g:G) (n:Nat) (K:Cont):Ja1 C a0 a1 g n K=Xg Tryz.prog C Xaf [a0,a1] g n K:=by kernel_rfl
def XO (C:CT) (K:Cont) (t:Env) (g:G) (n:Nat):Prop:=
Jd (t 7) fun l34 o34=>
Xl g l34 o34 12 fun c34=>
Jh (reps 1 [.int .i64 0,.int .i64 0,.bool false,.bool false,.int .u64 0,.int .u64 0,.int .u64 0,.int .u64 0,.int .u64 0,.int .u64 0,.int .u64 0,.int .u64 0]) [(0,some 12,.agg c34.toArray)] fun c35=>
Qv c35 .exact g n fun l35 g8 n35=>
Xc K (.slice (some ⟨l35,0,none⟩) 1 1) g8 n35
def Zal (C:CT) (K:Cont) (t:Env) (g:G) (n:Nat):Prop:=
Jd (t 4) fun l22 o22=>
kLd g l22 (o22+0) fun v23=>
Xb .int .eql v23 (.int .i64 3) fun v24=>
Qa v24 (
Jd (t 4) fun l30 o30=>
Xl g l30 (o30+2) 8 fun c31=>
Jd (t 7) fun l32 o32=>
kSt g l32 (o32+2) (.bool true) fun g6=>
(Jd (ptr l30 (o30+2)) fun l _=>g6 l=g l)∧Jd (t 7) fun l33 o33=>
Jl (.agg c31.toArray) fun cg7=>
cg7.length=8∧Qs g6 l33 (o33+4) cg7 fun g7=>
XO C K (puts t [(22,(ptr l22 (o22+0))),(23,v23),(24,v24),(25,.bool true),(26,undef),(27,undef),(28,undef),(29,.bool true),(30,(ptr l30 (o30+2))),(31,.agg c31.toArray),(32,(ptr l32 (o32+2))),(33,(ptr l33 (o33+4)))]) g7 n) (
Jd (t 4) fun l26 o26=>
kLd g l26 (o26+0) fun v27=>
Xb .int .eql v27 (.int .i64 9) fun v28=>
Qa v28 (
Jd (t 4) fun l30 o30=>
Xl g l30 (o30+2) 8 fun c31=>
Jd (t 7) fun l32 o32=>
kSt g l32 (o32+2) (.bool true) fun g9=>
(Jd (ptr l30 (o30+2)) fun l _=>g9 l=g l)∧Jd (t 7) fun l33 o33=>
Jl (.agg c31.toArray) fun cg10=>
cg10.length=8∧Qs g9 l33 (o33+4) cg10 fun g10=>
XO C K (puts t [(22,(ptr l22 (o22+0))),(23,v23),(24,v24),(25,.bool false),(26,(ptr l26 (o26+0))),(27,v27),(28,v28),(29,v28),(30,(ptr l30 (o30+2))),(31,.agg c31.toArray),(32,(ptr l32 (o32+2))),(33,(ptr l33 (o33+4)))]) g10 n) (
XO C K (puts t [(22,(ptr l22 (o22+0))),(23,v23),(24,v24),(25,.bool false),(26,(ptr l26 (o26+0))),(27,v27),(28,v28),(29,v28)]) g n))
def Qb1 (C:CT) (a0 a1 a2:Value) (g:G) (n:Nat) (K:Cont):Prop:=
Jl a0 fun c3=>
Qv c3 .exact g n fun l3 g1 n3=>
Jl a1 fun c4=>
Qv c4 .exact g1 n3 fun l4 g2 n4=>
kLd g2 l3 (0+1) fun v9=>
Jh [.int .i64 0,.int .i64 0,.bool false,.bool false,.int .u64 0,.int .u64 0,.int .u64 0,.int .u64 0,.int .u64 0,.int .u64 0,.int .u64 0,.int .u64 0] [(1,none,v9)] fun c10=>
Qv [.int .i64 0,.int .i64 0,.bool false,.bool false,.int .u64 0,.int .u64 0,.int .u64 0,.int .u64 0,.int .u64 0,.int .u64 0,.int .u64 0,.int .u64 0] .exact g2 n4 fun l7 g3 n7=>
Jl (.agg c10.toArray) fun cg4=>
cg4.length=12∧Qs g3 l7 0 cg4 fun g4=>
kLd g4 l3 (0+0) fun v12=>
Xb .int .eql v12 (.int .i64 12) fun v14=>
Qa v14 (
kSt g4 l7 (0+0) (.int .i64 6) fun g5=>
Zal C K (puts (Jq [a0,a1,a2]) [(3,ptr l3 0),(4,ptr l4 0),(6,.slice none 0 0),(8,(ptr l3 (0+1))),(9,v9),(10,.agg c10.toArray),(7,ptr l7 0),(11,(ptr l3 (0+0))),(12,v12),(14,v14),(13,v14),(15,(ptr l7 (0+0)))]) g5 n7) (
Xb .int .eql v12 (.int .i64 13) fun v17=>
Qa v17 (
Xb .int .eql a2 (.int .i64 1) fun v19=>
kSt g4 l7 (0+0) (.int .i64 7) fun g11=>
kSt g11 l7 (0+3) v19 fun g12=>
Zal C K (puts (Jq [a0,a1,a2]) [(3,ptr l3 0),(4,ptr l4 0),(6,.slice none 0 0),(8,(ptr l3 (0+1))),(9,v9),(10,.agg c10.toArray),(7,ptr l7 0),(11,(ptr l3 (0+0))),(12,v12),(14,v14),(13,v14),(17,v17),(16,v17),(18,a2),(19,v19),(20,(ptr l7 (0+0))),(21,(ptr l7 (0+3)))]) g12 n7) (
Xc K (.slice none 0 0) g4 n7))
theorem Qcq (C:CT) (a0 a1 a2:Value) (g:G) (n:Nat) (K:Cont):Qb1 C a0 a1 a2 g n K=Xg Tryz.prog C Zak [a0,a1,a2] g n K:=by kernel_rfl
def Qco (C:CT) (a0:Value) (g:G) (n:Nat) (K:Cont):Prop:=
Xb .int .eql a0 (.int .i64 6) fun v4=>
Qa v4 (
Xc K (.bool true) g n) (
Xb .int .eql a0 (.int .i64 7) fun v7=>
Xc K v7 g n)
theorem Jcy (C:CT) (a0:Value) (g:G) (n:Nat) (K:Cont):Qco C a0 g n K=Xg Tryz.prog C XaH [a0] g n K:=by kernel_rfl
def QdX (C:CT) (a0 a1:Value) (g:G) (n:Nat) (K:Cont):Prop:=
C Qq [a1] g n fun v7 g1 n7=>
Xb .int .and a0 v7 fun v8=>
Xb .int .neq v8 (.int .u8 0) fun v9=>
Xc K v9 g1 n7
theorem Xdq (C:CT) (a0 a1:Value) (g:G) (n:Nat) (K:Cont):QdX C a0 a1 g n K=Xg Tryz.prog C JaR [a0,a1] g n K:=by kernel_rfl
def ZdW (C:CT) (a0:Value) (g:G) (n:Nat) (K:Cont):Prop:=
Xb .int .lss a0 (.int .i64 0) fun v4=>
Qa v4 (
Xc K (.int .u8 0) g n) (
Xb .int .geq a0 (.int .i64 8) fun v7=>
Qa v7 (
Xc K (.int .u8 0) g n) (
Xb .int .shl (.int .u8 1) a0 fun v10=>
Xc K v10 g n))
theorem Zds (C:CT) (a0:Value) (g:G) (n:Nat) (K:Cont):ZdW C a0 g n K=Xg Tryz.prog C Qq [a0] g n K:=by kernel_rfl
def ZbO (C:CT) (a0 a1:Value) (g:G) (n:Nat) (K:Cont):Prop:=
Jl a1 fun c3=>
Qv c3 .exact g n fun l3 g1 n3=>
kLd g1 l3 (0+2) fun v5=>
Qa v5 (
Xl g1 l3 (0+4) 8 fun c9=>
Jm a0 fun v10=>
Jd v10 fun l11 o11=>
Jl (.agg c9.toArray) fun cg2=>
cg2.length=8∧Qs g1 l11 (o11+0+2) cg2 fun g2=>
Jm a0 fun v13=>
Jd v13 fun l14 o14=>
kSt g2 l14 (o14+0+1) (.bool true) fun g3=>
Xc K (.tuple #[]) g3 n3) (
Xc K (.tuple #[]) g1 n3)
theorem Jb4 (C:CT) (a0 a1:Value) (g:G) (n:Nat) (K:Cont):ZbO C a0 a1 g n K=Xg Tryz.prog C Qab [a0,a1] g n K:=by kernel_rfl
def ZbM (C:CT) (a0:Value) (g:G) (n:Nat) (K:Cont):Prop:=
Jm a0 fun v5=>
Jd v5 fun l6 o6=>
kSt g l6 (o6+0+12) (.int .i64 0) fun g1=>
Jm a0 fun v8=>
Jd v8 fun l9 o9=>
kSt g1 l9 (o9+0+13) (.int .i64 0) fun g2=>
Jm a0 fun v11=>
Jd v11 fun l12 o12=>
kSt g2 l12 (o12+0+14) (.int .u8 0) fun g3=>
Xc K (.tuple #[]) g3 n
theorem Xb5 (C:CT) (a0:Value) (g:G) (n:Nat) (K:Cont):ZbM C a0 g n K=Xg Tryz.prog C JW [a0] g n K:=by kernel_rfl
def QbI (C:CT) (a0 a1:Value) (g:G) (n:Nat) (K:Cont):Prop:=
Jm a0 fun v5=>
Jd v5 fun l6 o6=>
kLd g l6 (o6+0+11) fun v8=>
C Qq [a1] g n fun v10 g1 n10=>
(Jd (ptr l6 (o6+0+11)) fun l _=>g1 l=g l)∧Xb .int .or v8 v10 fun v11=>
Jm a0 fun v12=>
Jd v12 fun l13 o13=>
kSt g1 l13 (o13+0+11) v11 fun g2=>
C XC [a0,a1,.int .i64 8] g2 n10 fun v17 g3 n17=>
Xc K (.tuple #[]) g3 n17
theorem Zb3 (C:CT) (a0 a1:Value) (g:G) (n:Nat) (K:Cont):QbI C a0 a1 g n K=Xg Tryz.prog C ZW [a0,a1] g n K:=by kernel_rfl
def JbZ (C:CT) (a0 a1 a2:Value) (g:G) (n:Nat) (K:Cont):Prop:=
Jm a0 fun v9=>
Jd v9 fun l10 o10=>
kSt g l10 (o10+0+10) a1 fun g1=>
Jm a0 fun v12=>
Jd v12 fun l13 o13=>
kSt g1 l13 (o13+0+11) (.int .u8 0) fun g2=>
C XC [a0,a1,a2] g2 n fun v18 g3 n18=>
Xc K (.tuple #[]) g3 n18
theorem Zcd (C:CT) (a0 a1 a2:Value) (g:G) (n:Nat) (K:Cont):JbZ C a0 a1 a2 g n K=Xg Tryz.prog C JO [a0,a1,a2] g n K:=by kernel_rfl
def Xce (C:CT) (a0 a1:Value) (g:G) (n:Nat) (K:Cont):Prop:=
Xb .int .neq a0 (.int .i64 1) fun v7=>
Qa v7 (
Xb .int .neq a0 (.int .i64 2) fun v10=>
Qa v10 (
Xb .int .neq a0 (.int .i64 4) fun v14=>
Qa v14 (
Xb .int .neq a0 (.int .i64 8) fun v18=>
Qa v18 (
Xc K (.tuple #[.pointer none,.int .i64 1]) g n) (
Xb .int .lss a1 (.int .i64 1) fun v22=>
Qa v22 (
Xc K (.tuple #[.pointer none,.int .i64 1]) g n) (
Xb .int .gtr a1 (.int .i64 8) fun v26=>
Qa v26 (
Xc K (.tuple #[.pointer none,.int .i64 1]) g n) (
Xb .int .mul a0 a1 fun v32=>
Qby v32 v32 [.int .i64 0,.int .i64 0,.int .u64 0,.int .u64 0,.int .u64 0,.int .u64 0,.int .u64 0,.int .u64 0,.int .u64 0,.int .u64 0,.int .i64 0] 88 g n fun v33 g1 n33=>
Jh [.int .i64 0,.int .i64 0,.slice none 0 0,.int .i64 0] [(0,none,a0),(1,none,a1),(2,none,v33)] fun c34=>
Jl (.agg c34.toArray) fun c35=>
Qv c35 .exact g1 n33 fun l35 g2 n35=>
Xc K (.tuple #[ptr l35 0,.int .i64 0]) g2 n35)))) (
Xb .int .lss a1 (.int .i64 1) fun v22=>
Qa v22 (
Xc K (.tuple #[.pointer none,.int .i64 1]) g n) (
Xb .int .gtr a1 (.int .i64 8) fun v26=>
Qa v26 (
Xc K (.tuple #[.pointer none,.int .i64 1]) g n) (
Xb .int .mul a0 a1 fun v32=>
Qby v32 v32 [.int .i64 0,.int .i64 0,.int .u64 0,.int .u64 0,.int .u64 0,.int .u64 0,.int .u64 0,.int .u64 0,.int .u64 0,.int .u64 0,.int .i64 0] 88 g n fun v33 g3 n33=>
Jh [.int .i64 0,.int .i64 0,.slice none 0 0,.int .i64 0] [(0,none,a0),(1,none,a1),(2,none,v33)] fun c34=>
Jl (.agg c34.toArray) fun c35=>
Qv c35 .exact g3 n33 fun l35 g4 n35=>
Xc K (.tuple #[ptr l35 0,.int .i64 0]) g4 n35)))) (
Xb .int .lss a1 (.int .i64 1) fun v22=>
Qa v22 (
Xc K (.tuple #[.pointer none,.int .i64 1]) g n) (
Xb .int .gtr a1 (.int .i64 8) fun v26=>
Qa v26 (
Xc K (.tuple #[.pointer none,.int .i64 1]) g n) (
Xb .int .mul a0 a1 fun v32=>
Qby v32 v32 [.int .i64 0,.int .i64 0,.int .u64 0,.int .u64 0,.int .u64 0,.int .u64 0,.int .u64 0,.int .u64 0,.int .u64 0,.int .u64 0,.int .i64 0] 88 g n fun v33 g5 n33=>
Jh [.int .i64 0,.int .i64 0,.slice none 0 0,.int .i64 0] [(0,none,a0),(1,none,a1),(2,none,v33)] fun c34=>
Jl (.agg c34.toArray) fun c35=>
Qv c35 .exact g5 n33 fun l35 g6 n35=>
Xc K (.tuple #[ptr l35 0,.int .i64 0]) g6 n35)))) (
Xb .int .lss a1 (.int .i64 1) fun v22=>
Qa v22 (
Xc K (.tuple #[.pointer none,.int .i64 1]) g n) (
Xb .int .gtr a1 (.int .i64 8) fun v26=>
Qa v26 (
Xc K (.tuple #[.pointer none,.int .i64 1]) g n) (
Xb .int .mul a0 a1 fun v32=>
Qby v32 v32 [.int .i64 0,.int .i64 0,.int .u64 0,.int .u64 0,.int .u64 0,.int .u64 0,.int .u64 0,.int .u64 0,.int .u64 0,.int .u64 0,.int .i64 0] 88 g n fun v33 g7 n33=>
Jh [.int .i64 0,.int .i64 0,.slice none 0 0,.int .i64 0] [(0,none,a0),(1,none,a1),(2,none,v33)] fun c34=>
Jl (.agg c34.toArray) fun c35=>
Qv c35 .exact g7 n33 fun l35 g8 n35=>
Xc K (.tuple #[ptr l35 0,.int .i64 0]) g8 n35)))
theorem Zdl (C:CT) (a0 a1:Value) (g:G) (n:Nat) (K:Cont):Xce C a0 a1 g n K=Xg Tryz.prog C Jbb [a0,a1] g n K:=by kernel_rfl
def QaZ (C:CT) (a0 a1:Value) (g:G) (n:Nat) (K:Cont):Prop:=
Qv [.int .i64 0,.int .i64 0,.int .u64 0,.int .u64 0,.int .u64 0,.int .u64 0,.int .u64 0,.int .u64 0,.int .u64 0,.int .u64 0,.int .i64 0] .exact g n fun l4 g1 n4=>
C QF [a0,a1] g1 n4 fun v9 g2 n9=>
Xb .int .lss v9 (.int .i64 0) fun v11=>
Qa v11 (
Jh [.int .i64 0,.int .i64 0,.int .u64 0,.int .u64 0,.int .u64 0,.int .u64 0,.int .u64 0,.int .u64 0,.int .u64 0,.int .u64 0,.int .i64 0] [] fun c12=>
Jl (.agg c12.toArray) fun cg3=>
cg3.length=11∧Qs g2 l4 0 cg3 fun g3=>
Xl g3 l4 0 11 fun r0=>
Xc K (.tuple #[.agg r0.toArray,.bool false]) g3 n9) (
C Qt [a0,a1] g2 n9 fun v15 g4 n15=>
Zc v15 v9 11 fun v17=>
Jd v17 fun l18 o18=>
Xl g4 l18 o18 11 fun c18=>
Jl (.agg c18.toArray) fun cg5=>
cg5.length=11∧Qs g4 l4 0 cg5 fun g5=>
Xl g5 l4 0 11 fun r0=>
Xc K (.tuple #[.agg r0.toArray,.bool true]) g5 n15)
theorem Xby (C:CT) (a0 a1:Value) (g:G) (n:Nat) (K:Cont):QaZ C a0 a1 g n K=Xg Tryz.prog C Jae [a0,a1] g n K:=by kernel_rfl
def Jbp (C:CT) (a0 a1:Value) (g:G) (n:Nat) (K:Cont):Prop:=
isCell a1=true∧Qv [a1] .exact g n fun l3 g1 n3=>
Xb .ptr .eql a0 (.pointer none) fun v6=>
Qa v6 (
Xc K (.int .i64 (-1)) g1 n3) (
kLd g1 l3 0 fun v8=>
Xb .int .lss v8 (.int .i64 0) fun v9=>
Qa v9 (
Xc K (.int .i64 (-1)) g1 n3) (
kLd g1 l3 0 fun v12=>
C Qt [a0,v12] g1 n3 fun v13 g2 n13=>
C Zg [v13,(.func (.func Xad) #[] #[ptr l3 0])] g2 n13 fun v15 g3 n15=>
Xc K v15 g3 n15))
theorem ZbQ (C:CT) (a0 a1:Value) (g:G) (n:Nat) (K:Cont):Jbp C a0 a1 g n K=Xg Tryz.prog C QF [a0,a1] g n K:=by kernel_rfl
def QaF (C:CT) (a0:Value) (g:G) (n:Nat) (K:Cont):Prop:=
Jm a0 fun v4=>
Jd v4 fun l5 o5=>
kLd g l5 (o5+3) fun v6=>
Xb .int .add v6 (.int .i64 1) fun v7=>
Jm a0 fun v8=>
Jd v8 fun l9 o9=>
kSt g l9 (o9+3) v7 fun g1=>
Jm a0 fun v11=>
Jd v11 fun l12 o12=>
kLd g1 l12 (o12+3) fun v13=>
Xc K v13 g1 n
theorem Qbc (C:CT) (a0:Value) (g:G) (n:Nat) (K:Cont):QaF C a0 g n K=Xg Tryz.prog C ZL [a0] g n K:=by kernel_rfl
def Zbb (C:CT) (a0 a1:Value) (g:G) (n:Nat) (K:Cont):Prop:=
Jm a0 fun v7=>
Jd v7 fun l8 o8=>
kLd g l8 (o8+0) fun v9=>
Jm a0 fun v13=>
Jd v13 fun l14 o14=>
kLd g l14 (o14+1) fun v15=>
C Xbv [v9,a1] g n fun v11 g1 n11=>
(Jd (ptr l14 (o14+1)) fun l _=>g1 l=g l)∧Xb .int .mul v11 v15 fun v16=>
Jm a0 fun v18=>
Jd v18 fun l19 o19=>
kLd g1 l19 (o19+2) fun v20=>
Jm a0 fun v24=>
Jd v24 fun l25 o25=>
kLd g1 l25 (o25+1) fun v26=>
Xb .int .add v16 v26 fun v27=>
Jm a0 fun v30=>
Jd v30 fun l31 o31=>
kLd g1 l31 (o31+1) fun v32=>
Xb .int .add v16 v32 fun v33=>
Xr v20 (some v16) (some v27) (some v33) 11 fun v34=>
Xc K v34 g1 n11
theorem ZbE (C:CT) (a0 a1:Value) (g:G) (n:Nat) (K:Cont):Zbb C a0 a1 g n K=Xg Tryz.prog C Qt [a0,a1] g n K:=by kernel_rfl
def QH (C:CT) (K:Cont) (I_l1:Zi) (t:Env) (g:G) (n:Nat):Prop:=
Qa (t 27) (
Xb .int .lss (t 5) (.int .i64 0) fun v32=>
Qa v32 (
Jd (t 8) fun l39 o39=>
kLd g l39 (o39+1) fun v40=>
Jd (t 8) fun l41 o41=>
kLd g l41 (o41+10) fun v42=>
Xb .int .add (t 19) (.int .i64 1) fun v43=>
I_l1 (puts t [(31,t 5),(32,v32),(33,.bool true),(34,undef),(35,undef),(36,undef),(37,undef),(38,.bool true),(39,(ptr l39 (o39+1))),(40,v40),(41,(ptr l41 (o41+10))),(42,v42),(5,v40),(6,v42),(43,v43),(19,v43)]) g n) (
Jd (t 8) fun l34 o34=>
kLd g l34 (o34+10) fun v35=>
Xb .int .lss v35 (t 6) fun v37=>
Qa v37 (
Jd (t 8) fun l39 o39=>
kLd g l39 (o39+1) fun v40=>
Jd (t 8) fun l41 o41=>
kLd g l41 (o41+10) fun v42=>
Xb .int .add (t 19) (.int .i64 1) fun v43=>
I_l1 (puts t [(31,t 5),(32,v32),(33,.bool false),(34,(ptr l34 (o34+10))),(35,v35),(36,t 6),(37,v37),(38,v37),(39,(ptr l39 (o39+1))),(40,v40),(41,(ptr l41 (o41+10))),(42,v42),(5,v40),(6,v42),(43,v43),(19,v43)]) g n) (
Xb .int .add (t 19) (.int .i64 1) fun v43=>
I_l1 (puts t [(31,t 5),(32,v32),(33,.bool false),(34,(ptr l34 (o34+10))),(35,v35),(36,t 6),(37,v37),(38,v37),(43,v43),(19,v43)]) g n))) (
Xb .int .add (t 19) (.int .i64 1) fun v43=>
I_l1 (puts t [(43,v43),(19,v43)]) g n)
def ZaA (C:CT) (K:Cont) (t:Env) (g:G) (n:Nat):Prop:=
Xc K (.tuple #[.bool false,t 5]) g n
def Qaz (C:CT) (K:Cont) (I_l1:Zi) (t:Env) (g:G) (n:Nat):Prop:=
Xb .int .lss (t 19) (t 18) fun v20=>
Qa v20 (
Zc (t 17) (t 19) 11 fun v21=>
Jd v21 fun l22 o22=>
Xl g l22 o22 11 fun c22=>
Qv [.int .i64 0,.int .i64 0,.int .u64 0,.int .u64 0,.int .u64 0,.int .u64 0,.int .u64 0,.int .u64 0,.int .u64 0,.int .u64 0,.int .i64 0] .exact g n fun l8 g2 n8=>
Jl (.agg c22.toArray) fun cg3=>
cg3.length=11∧Qs g2 l8 0 cg3 fun g3=>
kLd g3 l8 (0+0) fun v24=>
Xb .int .eql v24 (.int .i64 0) fun v26=>
Qa v26 (
Xc K (.tuple #[.bool true,(.int .i64 (-1))]) g3 n8) (
Xb .int .eql v24 (.int .i64 1) fun v28=>
Qa v28 (
QH C K I_l1 (puts t [(20,v20),(21,v21),(22,.agg c22.toArray),(8,ptr l8 0),(23,(ptr l8 (0+0))),(24,v24),(26,v26),(25,v26),(28,v28),(27,v28)]) g3 n8) (
Xb .int .eql v24 (.int .i64 2) fun v29=>
Qa v29 (
QH C K I_l1 (puts t [(20,v20),(21,v21),(22,.agg c22.toArray),(8,ptr l8 0),(23,(ptr l8 (0+0))),(24,v24),(26,v26),(25,v26),(28,v28),(27,v28),(29,v29),(27,v29)]) g3 n8) (
Xb .int .eql v24 (.int .i64 3) fun v30=>
QH C K I_l1 (puts t [(20,v20),(21,v21),(22,.agg c22.toArray),(8,ptr l8 0),(23,(ptr l8 (0+0))),(24,v24),(26,v26),(25,v26),(28,v28),(27,v28),(29,v29),(27,v29),(30,v30),(27,v30)]) g3 n8)))) (
ZaA C K (puts t [(20,v20)]) g n)
def Ja3 (C:CT) (a0 a1:Value) (g:G) (n:Nat) (K:Cont):Prop:=
Xb .ptr .eql a0 (.pointer none) fun v10=>
Qa v10 (
Xc K (.tuple #[.bool false,(.int .i64 (-1))]) g n) (
Xb .int .lss a1 (.int .i64 0) fun v13=>
Qa v13 (
Xc K (.tuple #[.bool false,(.int .i64 (-1))]) g n) (
C Qt [a0,a1] g n fun v17 g1 n17=>
JaF v17 fun v18=>
lfp (Qaz C K) (puts (Jq [a0,a1]) [(4,.bool false),(5,.int .i64 0),(9,a0),(10,v10),(11,.bool false),(12,a1),(13,v13),(14,v13),(5,(.int .i64 (-1))),(6,.int .i64 0),(15,a0),(16,a1),(17,v17),(18,v18),(19,.int .i64 0)]) g1 n17))
theorem QbA (C:CT) (a0 a1:Value) (g:G) (n:Nat) (K:Cont):Ja3 C a0 a1 g n K=Xg Tryz.prog C Qad [a0,a1] g n K:=by kernel_rfl
def Jab (C:CT) (K:Cont) (t:Env) (g:G) (n:Nat):Prop:=
Jm (t 0) fun v26=>
Jd v26 fun l27 o27=>
kLd g l27 (o27+16) fun v28=>
Jd (t 6) fun l30 o30=>
Xl g l30 o30 12 fun c30=>
Jh [.int .i64 0,.int .i64 0,.int .i64 0,.bool false,.bool false,.int .u64 0,.int .u64 0,.int .u64 0,.int .u64 0,.int .u64 0,.int .u64 0,.int .u64 0,.int .u64 0] [(0,none,t 1),(1,some 12,.agg c30.toArray)] fun c31=>
Jh (reps 1 [.int .i64 0,.int .i64 0,.int .i64 0,.bool false,.bool false,.int .u64 0,.int .u64 0,.int .u64 0,.int .u64 0,.int .u64 0,.int .u64 0,.int .u64 0,.int .u64 0]) [(0,some 13,.agg c31.toArray)] fun c32=>
Qv c32 .exact g n fun l32 g4 n32=>
(Jd (ptr l27 (o27+16)) fun l _=>g4 l=g l)∧Jaf v28 (.slice (some ⟨l32,0,none⟩) 1 1) 13 96 g4 n32 fun v33 g5 n33=>
Jm (t 0) fun v34=>
Jd v34 fun l35 o35=>
kSt g5 l35 (o35+16) v33 fun g6=>
Xc K (.tuple #[]) g6 n33
def QW (C:CT) (K:Cont) (t:Env) (g:G) (n:Nat):Prop:=
Qa (t 14) (
Jm (t 0) fun v19=>
Jd v19 fun l20 o20=>
Xl g l20 (o20+0+2) 8 fun c22=>
Jd (t 6) fun l23 o23=>
Jl (.agg c22.toArray) fun cg3=>
cg3.length=8∧Qs g l23 (o23+4) cg3 fun g3=>
Jab C K (puts t [(18,t 0),(19,v19),(20,(ptr l20 (o20+0))),(21,(ptr l20 (o20+0+2))),(22,.agg c22.toArray),(23,(ptr l23 (o23+4)))]) g3 n) (
Jab C K t g n)
def QbL (C:CT) (a0 a1 a2:Value) (g:G) (n:Nat) (K:Cont):Prop:=
Jm a0 fun v9=>
Jd v9 fun l10 o10=>
kLd g l10 (o10+15) fun v11=>
Jh [.int .i64 0,.int .i64 0,.bool false,.bool false,.int .u64 0,.int .u64 0,.int .u64 0,.int .u64 0,.int .u64 0,.int .u64 0,.int .u64 0,.int .u64 0] [(0,none,a2),(1,none,v11)] fun c12=>
Qv [.int .i64 0,.int .i64 0,.bool false,.bool false,.int .u64 0,.int .u64 0,.int .u64 0,.int .u64 0,.int .u64 0,.int .u64 0,.int .u64 0,.int .u64 0] .exact g n fun l6 g1 n6=>
Jl (.agg c12.toArray) fun cg2=>
cg2.length=12∧Qs g1 l6 0 cg2 fun g2=>
Xb .int .eql a2 (.int .i64 8) fun v15=>
Qa v15 (
QW C K (puts (Jq [a0,a1,a2]) [(7,a2),(8,a0),(9,v9),(10,(ptr l10 (o10+15))),(11,v11),(12,.agg c12.toArray),(6,ptr l6 0),(13,a2),(15,v15),(14,v15)]) g2 n6) (
Xb .int .eql a2 (.int .i64 9) fun v16=>
Qa v16 (
QW C K (puts (Jq [a0,a1,a2]) [(7,a2),(8,a0),(9,v9),(10,(ptr l10 (o10+15))),(11,v11),(12,.agg c12.toArray),(6,ptr l6 0),(13,a2),(15,v15),(14,v15),(16,v16),(14,v16)]) g2 n6) (
Xb .int .eql a2 (.int .i64 10) fun v17=>
QW C K (puts (Jq [a0,a1,a2]) [(7,a2),(8,a0),(9,v9),(10,(ptr l10 (o10+15))),(11,v11),(12,.agg c12.toArray),(6,ptr l6 0),(13,a2),(15,v15),(14,v15),(16,v16),(14,v16),(17,v17),(14,v17)]) g2 n6))
theorem Xb4 (C:CT) (a0 a1 a2:Value) (g:G) (n:Nat) (K:Cont):QbL C a0 a1 a2 g n K=Xg Tryz.prog C XC [a0,a1,a2] g n K:=by kernel_rfl
def XA (C:CT) (K:Cont) (I_l1:Zi) (t:Env) (g:G) (n:Nat):Prop:=
Xb .int .lss (t 8) (t 7) fun v9=>
Qa v9 (
Zc (t 0) (t 8) 9 fun v14=>
Jd v14 fun l15 o15=>
Xl g l15 o15 9 fun c15=>
Qa8 C (t 1) [.agg c15.toArray] g n fun v16 g1 n16=>
Qa v16 (
Xc K (t 8) g1 n16) (
Xb .int .add (t 8) (.int .i64 1) fun v18=>
I_l1 (puts t [(9,v9),(10,t 8),(5,t 8),(11,t 1),(12,t 0),(13,t 8),(14,v14),(15,.agg c15.toArray),(16,v16),(18,v18),(8,v18)]) g1 n16)) (
Xc K (.int .i64 (-1)) g n)
def JE (C:CT) (a0 a1:Value) (g:G) (n:Nat) (K:Cont):Prop:=
JaF a0 fun v7=>
lfp (XA C K) (puts (Jq [a0,a1]) [(4,.int .i64 0),(6,a0),(7,v7),(8,.int .i64 0)]) g n
theorem Q5 (C:CT) (a0 a1:Value) (g:G) (n:Nat) (K:Cont):JE C a0 a1 g n K=Xg Tryz.prog C Zr [a0,a1] g n K:=by kernel_rfl
def QaM (C:CT) (a0 a1:Value) (g:G) (n:Nat) (K:Cont):Prop:=
Jl a0 fun c2=>
Qv c2 .exact g n fun l2 g1 n2=>
kLd g1 l2 (0+0) fun v5=>
Jd a1 fun l6 o6=>
kLd g1 l6 o6 fun v6=>
Xb .int .eql v5 v6 fun v7=>
Xc K v7 g1 n2
theorem Zbm (C:CT) (a0 a1:Value) (g:G) (n:Nat) (K:Cont):QaM C a0 a1 g n K=Xg Tryz.prog C Js [a0,a1] g n K:=by kernel_rfl
def Ji (C:CT) (K:Cont) (I_l1:Zi) (t:Env) (g:G) (n:Nat):Prop:=
Xb .int .add (t 6) (.int .i64 1) fun v21=>
I_l1 (puts t [(20,t 6),(21,v21),(6,v21)]) g n
def Zx (C:CT) (K:Cont) (t:Env) (g:G) (n:Nat):Prop:=
Xr (t 0) (some (t 5)) none none 11 fun v38=>
J9 v38 [.int .i64 0,.int .i64 0,.int .u64 0,.int .u64 0,.int .u64 0,.int .u64 0,.int .u64 0,.int .u64 0,.int .u64 0,.int .u64 0,.int .i64 0] g fun v_ g6=>
Xr (t 0) none (some (t 5)) none 11 fun v41=>
Xc K v41 g6 n
def Zy (C:CT) (K:Cont) (I_l1:Zi) (t:Env) (g:G) (n:Nat):Prop:=
JaF (t 0) fun v18=>
Xb .int .lss (t 6) v18 fun v19=>
Qa v19 (
Zc (t 0) (t 6) 11 fun v24=>
Jd v24 fun l25 o25=>
Xl g l25 o25 11 fun c25=>
Qv [.int .i64 0,.int .i64 0,.int .u64 0,.int .u64 0,.int .u64 0,.int .u64 0,.int .u64 0,.int .u64 0,.int .u64 0,.int .u64 0,.int .i64 0] .exact g n fun l7 g2 n7=>
Jl (.agg c25.toArray) fun cg3=>
cg3.length=11∧Qs g2 l7 0 cg3 fun g3=>
Xl g3 l7 0 11 fun c27=>
Qa8 C (t 1) [.agg c27.toArray] g3 n7 fun v28 g4 n28=>
kUn .not v28 fun v29=>
Qa v29 (
Xl g4 l7 0 11 fun c32=>
Zc (t 0) (t 5) 11 fun v33=>
Jd v33 fun lg5 og5=>
Jl (.agg c32.toArray) fun cg5=>
cg5.length=11∧Qs g4 lg5 og5 cg5 fun g5=>
Xb .int .add (t 5) (.int .i64 1) fun v35=>
Ji C K I_l1 (puts t [(16,t 6),(17,t 0),(18,v18),(19,v19),(22,t 0),(23,t 6),(24,v24),(25,.agg c25.toArray),(7,ptr l7 0),(26,t 1),(27,.agg c27.toArray),(28,v28),(29,v29),(30,t 0),(31,t 5),(32,.agg c32.toArray),(33,v33),(34,t 5),(35,v35),(5,v35)]) g5 n28) (
Ji C K I_l1 (puts t [(16,t 6),(17,t 0),(18,v18),(19,v19),(22,t 0),(23,t 6),(24,v24),(25,.agg c25.toArray),(7,ptr l7 0),(26,t 1),(27,.agg c27.toArray),(28,v28),(29,v29)]) g4 n28)) (
Zx C K (puts t [(16,t 6),(17,t 0),(18,v18),(19,v19)]) g n)
def JA (C:CT) (a0 a1:Value) (g:G) (n:Nat) (K:Cont):Prop:=
C Zg [a0,a1] g n fun v10 g1 n10=>
Xb .int .eql v10 (.int .i64 (-1)) fun v12=>
Qa v12 (
Xc K a0 g1 n10) (
Xb .int .add v10 (.int .i64 1) fun v15=>
lfp (Zy C K) (puts (Jq [a0,a1]) [(4,.slice none 0 0),(8,a0),(9,a1),(10,v10),(5,v10),(11,v10),(12,v12),(14,v10),(15,v15),(6,v15)]) g1 n10)
theorem XW (C:CT) (a0 a1:Value) (g:G) (n:Nat) (K:Cont):JA C a0 a1 g n K=Xg Tryz.prog C Xp [a0,a1] g n K:=by kernel_rfl
def QI (C:CT) (a0:Value) (g:G) (n:Nat) (K:Cont):Prop:=
Xb .slice .eql a0 (.slice none 0 0) fun v4=>
Qa v4 (
Xc K (.slice none 0 0) g n) (
Jh (reps 0 [.int .i64 0,.int .i64 0,.int .u64 0,.int .u64 0,.int .u64 0,.int .u64 0,.int .u64 0,.int .u64 0,.int .u64 0,.int .u64 0,.int .i64 0]) [] fun c5=>
Qv c5 .exact g n fun l5 g1 n5=>
Jaf (.slice (some ⟨l5,0,none⟩) 0 0) a0 11 88 g1 n5 fun v7 g2 n7=>
Xc K v7 g2 n7)
theorem J7 (C:CT) (a0:Value) (g:G) (n:Nat) (K:Cont):QI C a0 g n K=Xg Tryz.prog C Xs [a0] g n K:=by kernel_rfl
def Qcj (C:CT) (a0:Value) (g:G) (n:Nat) (K:Cont):Prop:=
Jl a0 fun c1=>
Qv c1 .exact g n fun l1 g1 n1=>
kLd g1 l1 (0+0) fun v4=>
Xb .int .eql v4 (.int .i64 0) fun v5=>
Xc K v5 g1 n1
theorem JcA (C:CT) (a0:Value) (g:G) (n:Nat) (K:Cont):Qcj C a0 g n K=Xg Tryz.prog C Qap [a0] g n K:=by kernel_rfl
def Za6 (C:CT) (a0 a1:Value) (g:G) (n:Nat) (K:Cont):Prop:=
Qv [.int .u64 0,.int .u64 0,.int .u64 0,.int .u64 0,.int .u64 0,.int .u64 0,.int .u64 0,.int .u64 0] .exact g n fun l4 g1 n4=>
C JP [a0,a1] g1 n4 fun v9 g2 n9=>
Xb .int .neq v9 (.int .i64 0) fun v11=>
Qa v11 (
Jh [.int .u64 0,.int .u64 0,.int .u64 0,.int .u64 0,.int .u64 0,.int .u64 0,.int .u64 0,.int .u64 0] [] fun c12=>
Jl (.agg c12.toArray) fun cg3=>
cg3.length=8∧Qs g2 l4 0 cg3 fun g3=>
Xl g3 l4 0 8 fun r0=>
Xc K (.tuple #[.agg r0.toArray,v9]) g3 n9) (
Jm a0 fun v15=>
Jd v15 fun l16 o16=>
C Zu [(ptr l16 (o16+2)),.int .i64 1] g2 n9 fun v17 g4 n17=>
Jm a0 fun v19=>
Jd v19 fun l20 o20=>
kLd g4 l20 (o20+0) fun v21=>
Zc v21 a1 8 fun v23=>
Jd v23 fun l24 o24=>
Xl g4 l24 o24 8 fun c24=>
Jl (.agg c24.toArray) fun cg5=>
cg5.length=8∧Qs g4 l4 0 cg5 fun g5=>
Xl g5 l4 0 8 fun r0=>
Xc K (.tuple #[.agg r0.toArray,.int .i64 0]) g5 n17)
theorem ZbJ (C:CT) (a0 a1:Value) (g:G) (n:Nat) (K:Cont):Za6 C a0 a1 g n K=Xg Tryz.prog C Xah [a0,a1] g n K:=by kernel_rfl
def Jy (C:CT) (a0 a1:Value) (g:G) (n:Nat) (K:Cont):Prop:=
C Zg [a0,a1] g n fun v7 g1 n7=>
Xb .int .geq v7 (.int .i64 0) fun v8=>
Xc K v8 g1 n7
theorem JQ (C:CT) (a0 a1:Value) (g:G) (n:Nat) (K:Cont):Jy C a0 a1 g n K=Xg Tryz.prog C Zv [a0,a1] g n K:=by kernel_rfl
def QaD (C:CT) (a0:Value) (g:G) (n:Nat) (K:Cont):Prop:=
Jl a0 fun c1=>
Qv c1 .exact g n fun l1 g1 n1=>
kLd g1 l1 (0+0) fun v4=>
C JaG [v4] g1 n1 fun v5 g2 n5=>
kUn .not v5 fun v6=>
Xc K v6 g2 n5
theorem Xbd (C:CT) (a0:Value) (g:G) (n:Nat) (K:Cont):QaD C a0 g n K=Xg Tryz.prog C Q0 [a0] g n K:=by kernel_rfl
def Jcp (C:CT) (a0:Value) (g:G) (n:Nat) (K:Cont):Prop:=
Xb .int .geq a0 (.int .i64 0) fun v4=>
Qa v4 (
Xb .int .leq a0 (.int .i64 3) fun v7=>
Xc K v7 g n) (
Xc K (.bool false) g n)
theorem Qcy (C:CT) (a0:Value) (g:G) (n:Nat) (K:Cont):Jcp C a0 g n K=Xg Tryz.prog C JaG [a0] g n K:=by kernel_rfl
def Zbs (C:CT) (a0 a1:Value) (g:G) (n:Nat) (K:Cont):Prop:=
Xb .ptr .eql a0 (.pointer none) fun v7=>
Qa v7 (
Xc K (.int .i64 1) g n) (
Xb .int .lss a1 (.int .i64 0) fun v10=>
Qa v10 (
Xc K (.int .i64 12) g n) (
Jm a0 fun v14=>
Jd v14 fun l15 o15=>
kLd g l15 (o15+0) fun v16=>
JaF v16 fun v17=>
Xb .int .geq a1 v17 fun v18=>
Qa v18 (
Xc K (.int .i64 12) g n) (
Xc K (.int .i64 0) g n)))
theorem JbU (C:CT) (a0 a1:Value) (g:G) (n:Nat) (K:Cont):Zbs C a0 a1 g n K=Xg Tryz.prog C JP [a0,a1] g n K:=by kernel_rfl
def Xy (C:CT) (K:Cont) (I_l1:Zi) (t:Env) (g:G) (n:Nat):Prop:=
Xb .int .lss (t 8) (t 7) fun v9=>
Qa v9 (
Zc (t 0) (t 8) 11 fun v14=>
Jd v14 fun l15 o15=>
Xl g l15 o15 11 fun c15=>
Qa8 C (t 1) [.agg c15.toArray] g n fun v16 g1 n16=>
Qa v16 (
Xc K (t 8) g1 n16) (
Xb .int .add (t 8) (.int .i64 1) fun v18=>
I_l1 (puts t [(9,v9),(10,t 8),(5,t 8),(11,t 1),(12,t 0),(13,t 8),(14,v14),(15,.agg c15.toArray),(16,v16),(18,v18),(8,v18)]) g1 n16)) (
Xc K (.int .i64 (-1)) g n)
def XB (C:CT) (a0 a1:Value) (g:G) (n:Nat) (K:Cont):Prop:=
JaF a0 fun v7=>
lfp (Xy C K) (puts (Jq [a0,a1]) [(4,.int .i64 0),(6,a0),(7,v7),(8,.int .i64 0)]) g n
theorem ZY (C:CT) (a0 a1:Value) (g:G) (n:Nat) (K:Cont):XB C a0 a1 g n K=Xg Tryz.prog C Zg [a0,a1] g n K:=by kernel_rfl
def QbN (C:CT) (a0 a1 a2:Value) (g:G) (n:Nat) (K:Cont):Prop:=
Jl a2 fun c5=>
Qv c5 .exact g n fun l5 g1 n5=>
Jm a0 fun v8=>
Jd v8 fun l9 o9=>
kLd g1 l9 (o9+0+10) fun v11=>
Xb .int .geq v11 (.int .i64 0) fun v17=>
Qa v17 (
Xb .int .neq v11 a1 fun v21=>
Qa v21 (
C Qq [v11] g1 n5 fun v26 g2 n26=>
C JI [a0,.int .i64 1,a1,v26,.int .i64 13] g2 n26 fun v27 g3 n27=>
Xc K (.tuple #[]) g3 n27) (
Jm a0 fun v30=>
Jd v30 fun l31 o31=>
kLd g1 l31 (o31+0+11) fun v33=>
Xb .int .eql v33 (.int .u8 0) fun v34=>
Qa v34 (
C JO [a0,a1,.int .i64 9] g1 n5 fun v37 g4 n37=>
Xc K (.tuple #[]) g4 n37) (
C ZW [a0,a1] g1 n5 fun v14 g5 n14=>
Xc K (.tuple #[]) g5 n14))) (
Jm a0 fun v30=>
Jd v30 fun l31 o31=>
kLd g1 l31 (o31+0+11) fun v33=>
Xb .int .eql v33 (.int .u8 0) fun v34=>
Qa v34 (
C JO [a0,a1,.int .i64 9] g1 n5 fun v37 g6 n37=>
Xc K (.tuple #[]) g6 n37) (
C ZW [a0,a1] g1 n5 fun v14 g7 n14=>
Xc K (.tuple #[]) g7 n14))
theorem Xb2 (C:CT) (a0 a1 a2:Value) (g:G) (n:Nat) (K:Cont):QbN C a0 a1 a2 g n K=Xg Tryz.prog C Zac [a0,a1,a2] g n K:=by kernel_rfl
def JbJ (C:CT) (a0 a1 a2:Value) (g:G) (n:Nat) (K:Cont):Prop:=
Jl a2 fun c5=>
Qv c5 .exact g n fun l5 g1 n5=>
C QU [a0] g1 n5 fun v8 g2 n8=>
C Qq [a1] g2 n8 fun v10 g3 n10=>
Xb .int .andNot v8 v10 fun v11=>
Xb .int .eql v11 (.int .u8 0) fun v13=>
Qa v13 (
C JO [a0,a1,.int .i64 10] g3 n10 fun v16 g4 n16=>
Xc K (.tuple #[]) g4 n16) (
C JI [a0,.int .i64 2,a1,v11,.int .i64 12] g3 n10 fun v20 g5 n20=>
Xc K (.tuple #[]) g5 n20)
theorem Qb5 (C:CT) (a0 a1 a2:Value) (g:G) (n:Nat) (K:Cont):JbJ C a0 a1 a2 g n K=Xg Tryz.prog C Xab [a0,a1,a2] g n K:=by kernel_rfl
def Jal (C:CT) (K:Cont) (t:Env) (g:G) (n:Nat):Prop:=
C XC [t 0,t 1,.int .i64 11] g n fun v33 g4 n33=>
Xc K (.tuple #[]) g4 n33
def QbW (C:CT) (a0 a1 a2:Value) (g:G) (n:Nat) (K:Cont):Prop:=
Jl a2 fun c5=>
Qv c5 .exact g n fun l5 g1 n5=>
Jm a0 fun v7=>
Jd v7 fun l8 o8=>
kLd g1 l8 (o8+0+10) fun v10=>
Xb .int .eql v10 a1 fun v12=>
Qa v12 (
Jm a0 fun v14=>
Jd v14 fun l15 o15=>
kSt g1 l15 (o15+0+10) (.int .i64 (-1)) fun g2=>
Xl g2 l5 0 12 fun c18=>
C Qab [a0,.agg c18.toArray] g2 n5 fun v19 g3 n19=>
Jal C K (puts (Jq [a0,a1,a2]) [(5,ptr l5 0),(6,a0),(7,v7),(8,(ptr l8 (o8+0))),(9,(ptr l8 (o8+0+10))),(10,v10),(11,a1),(12,v12),(13,a0),(14,v14),(15,(ptr l15 (o15+0))),(16,(ptr l15 (o15+0+10))),(17,a0),(18,.agg c18.toArray),(19,v19)]) g3 n19) (
Jm a0 fun v21=>
Jd v21 fun l22 o22=>
kLd g1 l22 (o22+0+11) fun v24=>
C Qq [a1] g1 n5 fun v26 g5 n26=>
(Jd (ptr l22 (o22+0+11)) fun l _=>g5 l=g1 l)∧Xb .int .andNot v24 v26 fun v27=>
Jm a0 fun v28=>
Jd v28 fun l29 o29=>
kSt g5 l29 (o29+0+11) v27 fun g6=>
Jal C K (puts (Jq [a0,a1,a2]) [(5,ptr l5 0),(6,a0),(7,v7),(8,(ptr l8 (o8+0))),(9,(ptr l8 (o8+0+10))),(10,v10),(11,a1),(12,v12),(20,a0),(21,v21),(22,(ptr l22 (o22+0))),(23,(ptr l22 (o22+0+11))),(24,v24),(25,a1),(26,v26),(27,v27),(28,v28),(29,(ptr l29 (o29+0))),(30,(ptr l29 (o29+0+11)))]) g6 n26)
theorem Xct (C:CT) (a0 a1 a2:Value) (g:G) (n:Nat) (K:Cont):QbW C a0 a1 a2 g n K=Xg Tryz.prog C Jaj [a0,a1,a2] g n K:=by kernel_rfl
def Jbq (C:CT) (a0 a1 a2:Value) (g:G) (n:Nat) (K:Cont):Prop:=
Jl a2 fun c5=>
Qv c5 .exact g n fun l5 g1 n5=>
Jm a0 fun v9=>
Jd v9 fun l10 o10=>
kLd g1 l10 (o10+0+10) fun v12=>
C Qq [v12] g1 n5 fun v13 g2 n13=>
C JI [a0,.int .i64 4,a1,v13,.int .i64 13] g2 n13 fun v14 g3 n14=>
Xc K (.tuple #[]) g3 n14
theorem XbV (C:CT) (a0 a1 a2:Value) (g:G) (n:Nat) (K:Cont):Jbq C a0 a1 a2 g n K=Xg Tryz.prog C X5 [a0,a1,a2] g n K:=by kernel_rfl
def QbF (C:CT) (a0 a1 a2:Value) (g:G) (n:Nat) (K:Cont):Prop:=
Jl a2 fun c5=>
Qv c5 .exact g n fun l5 g1 n5=>
C QU [a0] g1 n5 fun v9 g2 n9=>
C JI [a0,.int .i64 5,a1,v9,.int .i64 12] g2 n9 fun v10 g3 n10=>
Xc K (.tuple #[]) g3 n10
theorem Xb1 (C:CT) (a0 a1 a2:Value) (g:G) (n:Nat) (K:Cont):QbF C a0 a1 a2 g n K=Xg Tryz.prog C Jaa [a0,a1,a2] g n K:=by kernel_rfl
def XaZ (C:CT) (a0 a1:Value) (g:G) (n:Nat) (K:Cont):Prop:=
Jl a0 fun c2=>
Qv c2 .exact g n fun l2 g1 n2=>
kLd g1 l2 (0+0) fun v5=>
Xb .int .neq v5 (.int .i64 0) fun v6=>
Qa v6 (
kLd g1 l2 (0+1) fun v9=>
Jd a1 fun l10 o10=>
kLd g1 l10 o10 fun v10=>
Xb .int .eql v9 v10 fun v11=>
Xc K v11 g1 n2) (
Xc K (.bool false) g1 n2)
theorem Zbz (C:CT) (a0 a1:Value) (g:G) (n:Nat) (K:Cont):XaZ C a0 a1 g n K=Xg Tryz.prog C Xad [a0,a1] g n K:=by kernel_rfl
def Jam (C:CT) (K:Cont) (t:Env) (g:G) (n:Nat):Prop:=
Qa (t 8) (
Xb .int .rem (t 1) (t 0) fun v15=>
Xc K v15 g n) (
Xc K (.int .i64 0) g n)
def JdM (C:CT) (a0 a1:Value) (g:G) (n:Nat) (K:Cont):Prop:=
Xb .int .lss a1 (.int .i64 0) fun v6=>
Qa v6 (
Xc K (.int .i64 0) g n) (
Xb .int .eql a0 (.int .i64 1) fun v9=>
Qa v9 (
Jam C K (puts (Jq [a0,a1]) [(4,.int .i64 0),(5,a1),(6,v6),(7,a0),(9,v9),(8,v9)]) g n) (
Xb .int .eql a0 (.int .i64 2) fun v10=>
Qa v10 (
Jam C K (puts (Jq [a0,a1]) [(4,.int .i64 0),(5,a1),(6,v6),(7,a0),(9,v9),(8,v9),(10,v10),(8,v10)]) g n) (
Xb .int .eql a0 (.int .i64 4) fun v11=>
Qa v11 (
Jam C K (puts (Jq [a0,a1]) [(4,.int .i64 0),(5,a1),(6,v6),(7,a0),(9,v9),(8,v9),(10,v10),(8,v10),(11,v11),(8,v11)]) g n) (
Xb .int .eql a0 (.int .i64 8) fun v12=>
Jam C K (puts (Jq [a0,a1]) [(4,.int .i64 0),(5,a1),(6,v6),(7,a0),(9,v9),(8,v9),(10,v10),(8,v10),(11,v11),(8,v11),(12,v12),(8,v12)]) g n))))
theorem Qdr (C:CT) (a0 a1:Value) (g:G) (n:Nat) (K:Cont):JdM C a0 a1 g n K=Xg Tryz.prog C Xbv [a0,a1] g n K:=by kernel_rfl
def Qa3 (C:CT) (K:Cont) (I_l1:Zi) (t:Env) (g:G) (n:Nat):Prop:=
Xb .int .lss (t 30) (t 29) fun v31=>
Qa v31 (
Zc (t 28) (t 30) 1 fun v32=>
Jd v32 fun l33 o33=>
kLd g l33 o33 fun v33=>
C XC [t 0,v33,t 4] g n fun v37 g5 n37=>
Xb .int .add (t 30) (.int .i64 1) fun v38=>
I_l1 (puts t [(31,v31),(32,v32),(33,v33),(11,v33),(34,t 0),(35,v33),(36,t 4),(37,v37),(38,v38),(30,v38)]) g5 n37) (
Xc K (.tuple #[]) g n)
def JbC (C:CT) (a0 a1 a2 a3 a4:Value) (g:G) (n:Nat) (K:Cont):Prop:=
Jm a0 fun v18=>
Jd v18 fun l19 o19=>
kSt g l19 (o19+0+12) a1 fun g1=>
Jm a0 fun v21=>
Jd v21 fun l22 o22=>
kSt g1 l22 (o22+0+13) a2 fun g2=>
Jm a0 fun v24=>
Jd v24 fun l25 o25=>
kSt g2 l25 (o25+0+14) a3 fun g3=>
C XaT [a3] g3 n fun v28 g4 n28=>
JaF v28 fun v29=>
lfp (Qa3 C K) (puts (Jq [a0,a1,a2,a3,a4]) [(12,a0),(13,a0),(14,a0),(15,a1),(16,a2),(17,a3),(18,v18),(19,(ptr l19 (o19+0))),(20,(ptr l19 (o19+0+12))),(21,v21),(22,(ptr l22 (o22+0))),(23,(ptr l22 (o22+0+13))),(24,v24),(25,(ptr l25 (o25+0))),(26,(ptr l25 (o25+0+14))),(27,a3),(28,v28),(29,v29),(30,.int .i64 0)]) g4 n28
theorem Zb6 (C:CT) (a0 a1 a2 a3 a4:Value) (g:G) (n:Nat) (K:Cont):JbC C a0 a1 a2 a3 a4 g n K=Xg Tryz.prog C JI [a0,a1,a2,a3,a4] g n K:=by kernel_rfl
def ZaZ (C:CT) (a0:Value) (g:G) (n:Nat) (K:Cont):Prop:=
Jm a0 fun v4=>
Jd v4 fun l5 o5=>
kLd g l5 (o5+0+11) fun v7=>
Jm a0 fun v9=>
Jd v9 fun l10 o10=>
kLd g l10 (o10+0+10) fun v12=>
C Qq [v12] g n fun v13 g1 n13=>
(Jd (ptr l5 (o5+0+11)) fun l _=>g1 l=g l)∧Xb .int .or v7 v13 fun v14=>
Xc K v14 g1 n13
theorem Jbs (C:CT) (a0:Value) (g:G) (n:Nat) (K:Cont):ZaZ C a0 g n K=Xg Tryz.prog C QU [a0] g n K:=by kernel_rfl
def QbO (C:CT) (K:Cont) (I_l1:Zi) (t:Env) (g:G) (n:Nat):Prop:=
Xb .int .lss (t 5) (.int .i64 8) fun v6=>
Qa v6 (
C JaR [t 0,t 5] g n fun v10 g1 n10=>
Qa v10 (
Jh (reps 1 [.int .i64 0]) [(0,none,t 5)] fun c13=>
Qv c13 .exact g1 n10 fun l13 g2 n13=>
Jaf (t 3) (.slice (some ⟨l13,0,none⟩) 1 1) 1 8 g2 n13 fun v14 g3 n14=>
Xb .int .add (t 5) (.int .i64 1) fun v15=>
I_l1 (puts t [(6,v6),(7,t 5),(4,t 5),(8,t 0),(9,t 5),(10,v10),(11,t 3),(12,t 5),(13,(.slice (some ⟨l13,0,none⟩) 1 1)),(14,v14),(3,v14),(15,v15),(5,v15)]) g3 n14) (
Xb .int .add (t 5) (.int .i64 1) fun v15=>
I_l1 (puts t [(6,v6),(7,t 5),(4,t 5),(8,t 0),(9,t 5),(10,v10),(15,v15),(5,v15)]) g1 n10)) (
Xc K (t 3) g n)
def QcB (C:CT) (a0:Value) (g:G) (n:Nat) (K:Cont):Prop:=
lfp (QbO C K) (puts (Jq [a0]) [(2,.slice none 0 0),(3,.slice none 0 0),(5,.int .i64 0)]) g n
theorem Xc1 (C:CT) (a0:Value) (g:G) (n:Nat) (K:Cont):QcB C a0 g n K=Xg Tryz.prog C XaT [a0] g n K:=by kernel_rfl
end Go.Proofs.YtjpckcikmfihlaaGreat.Gen
