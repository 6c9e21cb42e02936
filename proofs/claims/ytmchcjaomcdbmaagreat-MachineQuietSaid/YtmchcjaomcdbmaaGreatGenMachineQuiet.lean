import Derived.Test.YtmchcjaomcdbmaaGreatProg
import Derived.KernelRfl
import Derived.Test.YtmchcjaomcdbmaaGreatAbsC
/- What the machine comes to on each function, printed by program; each equation is checked by the kernel. -/
set_option linter.all false
set_option linter.deprecated false
namespace Go.Proofs.YtmchcjaomcdbmaaGreat.Gen
open Go Go.Proofs.YtmchcjaomcdbmaaGreat.Abs
def QU:FuncId:=9
def Zay:FuncId:=12
def JcC:FuncId:=14
def Xag:FuncId:=17
def Xax:FuncId:=19
def QM:FuncId:=20
def XaD:FuncId:=21
def Jay:FuncId:=22
def Xay:FuncId:=23
def Zaa:FuncId:=24
def Zav:FuncId:=30
def JV:FuncId:=32
def XB:FuncId:=33
def JK:FuncId:=34
def Zn:FuncId:=38
def Xv:FuncId:=39
def Jaw:FuncId:=42
def Xp:FuncId:=43
def XU:FuncId:=44
def Z4:FuncId:=45
def X9:FuncId:=46
def Qaq:FuncId:=48
def Xab:FuncId:=49
def Z9:FuncId:=51
def Zat:FuncId:=52
def QZ:FuncId:=53
def Q6:FuncId:=54
def QK:FuncId:=55
def Jch:FuncId:=56
def JbD:FuncId:=57
def Q7:FuncId:=58
def ZF:FuncId:=59
def Zda:FuncId:=60
def Z8:FuncId:=61
def Xn:FuncId:=62
def Jo:FuncId:=63
def JaG:FuncId:=64
def X3:FuncId:=65
def Xah:FuncId:=66
def X8:FuncId:=67
def Qs:FuncId:=68
def ZaQ:FuncId:=69
def J7:FuncId:=70
def Zbr:FuncId:=71
def Zax:FuncId:=72
def Qav:FuncId:=73
def Qax:FuncId:=80
def QaF:FuncId:=81
def Xao:FuncId:=96
def JP:FuncId:=106
def Qbc:FuncId:=107
def Jbj:FuncId:=108
def Jk:FuncId:=112
def QaV:FuncId:=117
def QaH:FuncId:=118
def XaP:FuncId:=119
def Qak:FuncId:=120
def Zaw:FuncId:=121
def Zad:FuncId:=122
def ZaG:FuncId:=123
def Jck:FuncId:=124
def Qy:FuncId:=125
def Jp:FuncId:=126
def ZaE:FuncId:=127
def Xba:FuncId:=128
def Zg:FuncId:=129
def Qcd:FuncId:=130
def ZD:FuncId:=131
def Jbc:FuncId:=132
def Qr:FuncId:=133
def Jav:FuncId:=134
def X6:FuncId:=135
def Qbl:FuncId:=136
def XbN:FuncId:=137
def Zt:FuncId:=138
def ZaT:FuncId:=139
def XaH:FuncId:=140
def Qv:FuncId:=141
def Xae:FuncId:=142
def Q5:FuncId:=143
def JQ:FuncId:=144
def Q8:FuncId:=147
def ZY:FuncId:=148
def QaT:FuncId:=149
def Jai:FuncId:=167
def QcH:FuncId:=170
def ZT:FuncId:=171
def JN:FuncId:=172
def Z7:FuncId:=173
def JJ:FuncId:=174
def JU:FuncId:=175
def JT:FuncId:=176
def XO:FuncId:=177
def ZV:FuncId:=178
def QO:FuncId:=179
def Xq:FuncId:=180
def JaN:FuncId:=190
def Xav:FuncId:=191
def QN:FuncId:=192
def XaA:FuncId:=193
def QbH:FuncId:=194
def Xbd:FuncId:=195
def QaW:FuncId:=196
def JcD:FuncId:=197
def QcF:FuncId:=198
def Xb9:FuncId:=199
def Qcx:FuncId:=200
def XaE:FuncId:=201
def QaN:FuncId:=202
def Zbv:FuncId:=203
def QbT:FuncId:=204
def Jv:FuncId:=205
def ZaC:FuncId:=206
def Zai:FuncId:=207
def Zaj:FuncId:=208
def Qad:FuncId:=209
def Xcd:FuncId:=210
def ZbN:FuncId:=211
def QaG:FuncId:=212
def JW:FuncId:=213
def J4:FuncId:=214
def ZB:FuncId:=215
def ZaH:FuncId:=216
def ZQ:FuncId:=217
def Qx:FuncId:=218
def ZA:FuncId:=219
def Jae:FuncId:=220
def Zec:FuncId:=221
def ZE:FuncId:=222
def QaM:FuncId:=223
def XD:FuncId:=224
def Xap:FuncId:=225
def Xbt:FuncId:=226
def Xu:FuncId:=227
def QA:FuncId:=228
def XaX:FuncId:=229
def QI:FuncId:=257
def QX:FuncId:=262
def JO:FuncId:=263
def Zz:FuncId:=264
def Qat:FuncId:=265
def XaU:FuncId:=266
def JD:FuncId:=267
def QD:FuncId:=268
def Zu:FuncId:=269
def XY:FuncId:=270
def Jh:FuncId:=271
def JaB:FuncId:=273
def ZaD:FuncId:=274
def QaO:FuncId:=275
def Jat:FuncId:=276
def QaC:FuncId:=277
def XaG:FuncId:=278
def ZcC:FuncId:=279
def Jac:FuncId:=280
def Za4:FuncId:=290
def Jas:FuncId:=291
def Jbf:FuncId:=292
def ZI:FuncId:=293
def Zm:FuncId:=294
def JM:FuncId:=295
def Qae:FuncId:=296
def QaK:FuncId:=297
def J3:FuncId:=300
def Jah:FuncId:=301
def Xbj:FuncId:=305
def JaL:FuncId:=306
def XbP:FuncId:=307
def Xs:FuncId:=308
def JaT:FuncId:=309
def Xy:FuncId:=310
def XaM:FuncId:=311
def Xr:FuncId:=312
def QaD:FuncId:=313
def JbR:FuncId:=314
def ZaJ:FuncId:=316
def JcH:FuncId:=317
def XbT:FuncId:=318
def Xaq:FuncId:=319
def ZaF:FuncId:=320
def JaE:FuncId:=321
def Zal:FuncId:=322
def XdE:FuncId:=323
def Xcz:FuncId:=324
def Jbs:FuncId:=325
def Qn:FuncId:=329
def Xc0:FuncId:=330
def Zap:FuncId:=331
def XI:FuncId:=332
def Jcc:FuncId:=333
def Qc9:FuncId:=334
def Jc5:FuncId:=335
def Zb5:FuncId:=336
def Xcg:FuncId:=337
def Zc8:FuncId:=342
def ZC:FuncId:=344
def QJ:FuncId:=345
def QW:FuncId:=346
def X7:FuncId:=347
def Xaj:FuncId:=348
def ZaA:FuncId:=349
def Zw (C:CT) (K:Cont) (I_l3:Qk) (t:Env) (g:G) (n:Nat):Prop:=
Jb .int .add (t 9) (.int .i64 1) λB=>
I_l3 (puts t [(96,t 9),(97,B),(9,B)]) g n
def QT (C:CT) (K:Cont) (t:Env) (g:G) (n:Nat):Prop:=
C XB [t 5] g n λB E F=>
C QM [B] E F λB E F=>
C Jaw [B,t 8] E F λB E F=>
Qa B (
C Zn [] E F λB H I=>
Zc K B H I) (
Zc K (.bool false) E F)
def ZU (C:CT) (K:Cont) (I_l3:Qk) (t:Env) (g:G) (n:Nat):Prop:=
Jak (t 1) λB=>
Jb .int .lss (t 9) B λE=>
Qa E (
Jd (t 1) (t 9) 3 λF=>
Xc F λH I=>
kLd g H (I+0) λJ=>
Jb .int .geq J (.int .i64 7) λM=>
Qa M (
Jd (t 1) (t 9) 3 λO=>
Xc O λP Q=>
kLd g P (Q+0) λR=>
Jb .int .leq R (.int .i64 10) λT=>
Qa T (
Zw C K I_l3 (puts t [(92,t 9),(93,t 1),(94,B),(95,E),(98,t 1),(99,t 9),(100,F),(101,(ptr H (I+0))),(102,J),(103,M),(104,.bool true),(105,t 1),(106,t 9),(107,O),(108,(ptr P (Q+0))),(109,R),(110,T),(111,T)]) g n) (
Jd (t 1) (t 9) 3 λU=>
Xc U λV W=>
Ql g V W 3 λX=>
C JK [t 5,.agg X.toArray] g n λY Z j=>
Jak Y λw=>
Jb .int .neq w (.int .i64 0) λAA=>
Qa AA (
Zc K (.bool false) Z j) (
C Xp [t 5] Z j λZ AB AD=>
kUn .not Z λAE=>
Qa AE (
Zc K (.bool false) AB AD) (
Zw C K I_l3 (puts t [(92,t 9),(93,t 1),(94,B),(95,E),(98,t 1),(99,t 9),(100,F),(101,(ptr H (I+0))),(102,J),(103,M),(104,.bool true),(105,t 1),(106,t 9),(107,O),(108,(ptr P (Q+0))),(109,R),(110,T),(111,T),(112,t 5),(113,t 1),(114,t 9),(115,U),(116,.agg X.toArray),(117,Y),(118,w),(119,AA),(120,.bool false),(121,t 5),(122,Z),(123,AE),(124,AE)]) AB AD)))) (
Jd (t 1) (t 9) 3 λU=>
Xc U λV W=>
Ql g V W 3 λX=>
C JK [t 5,.agg X.toArray] g n λY O j=>
Jak Y λw=>
Jb .int .neq w (.int .i64 0) λAA=>
Qa AA (
Zc K (.bool false) O j) (
C Xp [t 5] O j λZ O AD=>
kUn .not Z λAE=>
Qa AE (
Zc K (.bool false) O AD) (
Zw C K I_l3 (puts t [(92,t 9),(93,t 1),(94,B),(95,E),(98,t 1),(99,t 9),(100,F),(101,(ptr H (I+0))),(102,J),(103,M),(104,.bool false),(105,undef),(106,undef),(107,undef),(108,undef),(109,undef),(110,undef),(111,.bool false),(112,t 5),(113,t 1),(114,t 9),(115,U),(116,.agg X.toArray),(117,Y),(118,w),(119,AA),(120,.bool false),(121,t 5),(122,Z),(123,AE),(124,AE)]) O AD)))) (
QT C K (puts t [(92,t 9),(93,t 1),(94,B),(95,E)]) g n)
def Qw (C:CT) (K:Cont) (t:Env) (g:G) (n:Nat):Prop:=
C Xp [t 5] g n λB E F=>
kUn .not B λH=>
Qa H (
C Zn [] E F λI J M=>
Zc K I J M) (
C XB [t 5] E F λE F I=>
C QM [E] F I λF I J=>
lfp (ZU C K) (puts t [(85,t 5),(86,B),(87,H),(89,t 5),(90,E),(91,F),(8,F),(9,.int .i64 0)]) I J)
def Jr (C:CT) (K:Cont) (I_l1:Qk) (t:Env) (g:G) (n:Nat):Prop:=
Jb .int .lss (t 7) (.int .i64 60) λB=>
Qa B (
C Xp [t 5] g n λE F H=>
kUn .not E λI=>
Qa I (
Xc (t 2) λJ M=>
Ql F J (M+0) 7 λO=>
C Z4 [.agg O.toArray] F H λP Q R=>
C XU [t 5,P] Q R λQ R T=>
Jb .int .add (t 7) (.int .i64 1) λU=>
I_l1 (puts t [(71,t 7),(72,B),(73,.bool true),(74,t 5),(75,E),(76,I),(77,I),(80,t 5),(81,(ptr J (M+0))),(82,.agg O.toArray),(83,P),(84,Q),(78,t 7),(79,U),(7,U)]) R T) (
Qw C K (puts t [(71,t 7),(72,B),(73,.bool true),(74,t 5),(75,E),(76,I),(77,I)]) F H)) (
Qw C K (puts t [(71,t 7),(72,B),(73,.bool false),(74,undef),(75,undef),(76,undef),(77,.bool false)]) g n)
def Jaz (C:CT) (B E:Value) (g:G) (n:Nat) (K:Cont):Prop:=
Jj B λc2=>
Zl c2 .exact g n λl2 F n2=>
kLd F l2 (0+8) λH=>
kLd F l2 (0+9) λI=>
C Zav [H,I,E] F n2 λF J M=>
kUn .not F λO=>
Qa O (
C Zn [] J M λP Q R=>
Zc K P Q R) (
Ql J l2 (0+0) 7 λQ=>
C Zay [.agg Q.toArray] J M λJ M T=>
kUn .not J λU=>
Qa U (
C Zn [] M T λP V R=>
Zc K P V R) (
kLd M l2 (0+8) λV=>
Jak V λW=>
kLd M l2 (0+0+0) λX=>
Jb .int .neq W X λY=>
Qa Y (
C Zn [] M T λP Z R=>
Zc K P Z R) (
kLd M l2 (0+7) λZ=>
Jak Z λj=>
kLd M l2 (0+0+1) λt=>
Jb .int .neq j t λw=>
Qa w (
C Zn [] M T λP AA R=>
Zc K P AA R) (
kLd M l2 (0+0+1) λAA=>
Jb .int .gtr AA (.int .i64 20) λAB=>
Qa AB (
C Zn [] M T λP AD R=>
Zc K P AD R) (
Ql M l2 (0+0) 7 λP=>
kLd M l2 (0+7) λR=>
kLd M l2 (0+8) λAD=>
kLd M l2 (0+9) λAE=>
(Qf (reps 0 [.int .u64 0,.int .u64 0,.int .u64 0,.int .u64 0,.int .u64 0,.int .u64 0,.int .u64 0,.int .u64 0]) [] λAF=>
Zl AF .exact M T λAG AH AI=>
(Xc (ptr l2 (0+0)) λl _=>AH l=M l)∧(Xc (ptr l2 (0+7)) λl _=>AH l=M l)∧(Xc (ptr l2 (0+8)) λl _=>AH l=M l)∧(Xc (ptr l2 (0+9)) λl _=>AH l=M l)∧(Zs (.slice (some ⟨AG,0,none⟩) 0 0) R 8 64 AH AI λAJ AL AM=>
(Xc (ptr l2 (0+0)) λl _=>AL l=AH l)∧(Xc (ptr l2 (0+8)) λl _=>AL l=AH l)∧(Xc (ptr l2 (0+9)) λl _=>AL l=AH l)∧(C Xv [AD] AL AM λAN AO AP=>
(Xc (ptr l2 (0+0)) λl _=>AO l=AL l)∧(Xc (ptr l2 (0+9)) λl _=>AO l=AL l)∧Qf (reps 0 [.int .u64 0]) [] λAQ=>
Zl AQ .exact AO AP λAR AT AU=>
(Xc (ptr l2 (0+0)) λl _=>AT l=AO l)∧(Xc (ptr l2 (0+7)) λl _=>AT l=AO l)∧(Xc (ptr l2 (0+8)) λl _=>AT l=AO l)∧(Xc (ptr l2 (0+9)) λl _=>AT l=AO l)∧Zs (.slice (some ⟨AR,0,none⟩) 0 0) AE 1 8 AT AU λAO AV AW=>
(Xc (ptr l2 (0+0)) λl _=>AV l=AT l)∧C JV [.agg P.toArray,AJ,AN,AO] AV AW λAT AV AX=>
Qc AT 0 λAY=>
Qc AT 1 λAZ=>
Jb .int .neq AZ (.int .i64 0) λAa=>
Qa Aa (
Zc K (.bool false) AV AX) (
Jb .ptr .eql AY (.pointer none) λAb=>
Qa Ab (
Zc K (.bool false) AV AX) (
lfp (Jr C K) (puts (Qi [B,E]) [(2,ptr l2 0),(4,.bool false),(10,(ptr l2 (0+8))),(11,H),(12,(ptr l2 (0+9))),(13,I),(14,E),(15,F),(16,O),(17,.bool false),(18,(ptr l2 (0+0))),(19,.agg Q.toArray),(20,J),(21,U),(22,U),(23,.bool false),(24,(ptr l2 (0+8))),(25,V),(26,W),(27,(ptr l2 (0+0))),(28,(ptr l2 (0+0+0))),(29,X),(30,Y),(31,Y),(32,.bool false),(33,(ptr l2 (0+7))),(34,Z),(35,j),(36,(ptr l2 (0+0))),(37,(ptr l2 (0+0+1))),(38,t),(39,w),(40,w),(41,.bool false),(42,(ptr l2 (0+0))),(43,(ptr l2 (0+0+1))),(44,AA),(45,AB),(46,AB),(49,(ptr l2 (0+0))),(50,.agg P.toArray),(52,(ptr l2 (0+7))),(53,R),(55,(ptr l2 (0+8))),(56,AD),(59,(ptr l2 (0+9))),(60,AE),(51,(.slice (some ⟨AG,0,none⟩) 0 0)),(54,AJ),(57,AN),(58,(.slice (some ⟨AR,0,none⟩) 0 0)),(61,AO),(62,AT),(48,AT),(63,AY),(64,AZ),(5,AY),(6,AZ),(65,AZ),(66,Aa),(67,.bool false),(68,AY),(69,Ab),(70,Ab),(7,.int .i64 0)]) AV AX)))∧(Qf (reps 0 [.int .u64 0]) [] λAQ=>
Zl AQ .exact AL AM λAR AV AU=>
(Xc (ptr l2 (0+0)) λl _=>AV l=AL l)∧(Xc (ptr l2 (0+7)) λl _=>AV l=AL l)∧(Xc (ptr l2 (0+8)) λl _=>AV l=AL l)∧(Xc (ptr l2 (0+9)) λl _=>AV l=AL l)∧C Xv [AD] AV AU λAN AL AP=>
(Xc (ptr l2 (0+0)) λl _=>AL l=AV l)∧(Xc (ptr l2 (0+9)) λl _=>AL l=AV l)∧Zs (.slice (some ⟨AR,0,none⟩) 0 0) AE 1 8 AL AP λAO AV AW=>
(Xc (ptr l2 (0+0)) λl _=>AV l=AL l)∧C JV [.agg P.toArray,AJ,AN,AO] AV AW λAT AL AX=>
Qc AT 0 λAY=>
Qc AT 1 λAZ=>
Jb .int .neq AZ (.int .i64 0) λAa=>
Qa Aa (
Zc K (.bool false) AL AX) (
Jb .ptr .eql AY (.pointer none) λAb=>
Qa Ab (
Zc K (.bool false) AL AX) (
lfp (Jr C K) (puts (Qi [B,E]) [(2,ptr l2 0),(4,.bool false),(10,(ptr l2 (0+8))),(11,H),(12,(ptr l2 (0+9))),(13,I),(14,E),(15,F),(16,O),(17,.bool false),(18,(ptr l2 (0+0))),(19,.agg Q.toArray),(20,J),(21,U),(22,U),(23,.bool false),(24,(ptr l2 (0+8))),(25,V),(26,W),(27,(ptr l2 (0+0))),(28,(ptr l2 (0+0+0))),(29,X),(30,Y),(31,Y),(32,.bool false),(33,(ptr l2 (0+7))),(34,Z),(35,j),(36,(ptr l2 (0+0))),(37,(ptr l2 (0+0+1))),(38,t),(39,w),(40,w),(41,.bool false),(42,(ptr l2 (0+0))),(43,(ptr l2 (0+0+1))),(44,AA),(45,AB),(46,AB),(49,(ptr l2 (0+0))),(50,.agg P.toArray),(52,(ptr l2 (0+7))),(53,R),(55,(ptr l2 (0+8))),(56,AD),(59,(ptr l2 (0+9))),(60,AE),(51,(.slice (some ⟨AG,0,none⟩) 0 0)),(54,AJ),(58,(.slice (some ⟨AR,0,none⟩) 0 0)),(57,AN),(61,AO),(62,AT),(48,AT),(63,AY),(64,AZ),(5,AY),(6,AZ),(65,AZ),(66,Aa),(67,.bool false),(68,AY),(69,Ab),(70,Ab),(7,.int .i64 0)]) AL AX))))∧(Qf (reps 0 [.int .u64 0]) [] λAQ=>
Zl AQ .exact AH AI λAR AL AU=>
(Xc (ptr l2 (0+0)) λl _=>AL l=AH l)∧(Xc (ptr l2 (0+7)) λl _=>AL l=AH l)∧(Xc (ptr l2 (0+8)) λl _=>AL l=AH l)∧(Xc (ptr l2 (0+9)) λl _=>AL l=AH l)∧Zs (.slice (some ⟨AG,0,none⟩) 0 0) R 8 64 AL AU λAJ AH AM=>
(Xc (ptr l2 (0+0)) λl _=>AH l=AL l)∧(Xc (ptr l2 (0+8)) λl _=>AH l=AL l)∧(Xc (ptr l2 (0+9)) λl _=>AH l=AL l)∧C Xv [AD] AH AM λAN AL AP=>
(Xc (ptr l2 (0+0)) λl _=>AL l=AH l)∧(Xc (ptr l2 (0+9)) λl _=>AL l=AH l)∧Zs (.slice (some ⟨AR,0,none⟩) 0 0) AE 1 8 AL AP λAO AH AW=>
(Xc (ptr l2 (0+0)) λl _=>AH l=AL l)∧C JV [.agg P.toArray,AJ,AN,AO] AH AW λAT AH AX=>
Qc AT 0 λAY=>
Qc AT 1 λAZ=>
Jb .int .neq AZ (.int .i64 0) λAa=>
Qa Aa (
Zc K (.bool false) AH AX) (
Jb .ptr .eql AY (.pointer none) λAb=>
Qa Ab (
Zc K (.bool false) AH AX) (
lfp (Jr C K) (puts (Qi [B,E]) [(2,ptr l2 0),(4,.bool false),(10,(ptr l2 (0+8))),(11,H),(12,(ptr l2 (0+9))),(13,I),(14,E),(15,F),(16,O),(17,.bool false),(18,(ptr l2 (0+0))),(19,.agg Q.toArray),(20,J),(21,U),(22,U),(23,.bool false),(24,(ptr l2 (0+8))),(25,V),(26,W),(27,(ptr l2 (0+0))),(28,(ptr l2 (0+0+0))),(29,X),(30,Y),(31,Y),(32,.bool false),(33,(ptr l2 (0+7))),(34,Z),(35,j),(36,(ptr l2 (0+0))),(37,(ptr l2 (0+0+1))),(38,t),(39,w),(40,w),(41,.bool false),(42,(ptr l2 (0+0))),(43,(ptr l2 (0+0+1))),(44,AA),(45,AB),(46,AB),(49,(ptr l2 (0+0))),(50,.agg P.toArray),(52,(ptr l2 (0+7))),(53,R),(55,(ptr l2 (0+8))),(56,AD),(59,(ptr l2 (0+9))),(60,AE),(51,(.slice (some ⟨AG,0,none⟩) 0 0)),(58,(.slice (some ⟨AR,0,none⟩) 0 0)),(54,AJ),(57,AN),(61,AO),(62,AT),(48,AT),(63,AY),(64,AZ),(5,AY),(6,AZ),(65,AZ),(66,Aa),(67,.bool false),(68,AY),(69,Ab),(70,Ab),(7,.int .i64 0)]) AH AX))))∧(Qf (reps 0 [.int .u64 0]) [] λAQ=>
Zl AQ .exact M T λAR T AU=>
(Xc (ptr l2 (0+0)) λl _=>T l=M l)∧(Xc (ptr l2 (0+7)) λl _=>T l=M l)∧(Xc (ptr l2 (0+8)) λl _=>T l=M l)∧(Xc (ptr l2 (0+9)) λl _=>T l=M l)∧Qf (reps 0 [.int .u64 0,.int .u64 0,.int .u64 0,.int .u64 0,.int .u64 0,.int .u64 0,.int .u64 0,.int .u64 0]) [] λAF=>
Zl AF .exact T AU λAG M AI=>
(Xc (ptr l2 (0+0)) λl _=>M l=T l)∧(Xc (ptr l2 (0+7)) λl _=>M l=T l)∧(Xc (ptr l2 (0+8)) λl _=>M l=T l)∧(Xc (ptr l2 (0+9)) λl _=>M l=T l)∧Zs (.slice (some ⟨AG,0,none⟩) 0 0) R 8 64 M AI λAJ T AM=>
(Xc (ptr l2 (0+0)) λl _=>T l=M l)∧(Xc (ptr l2 (0+8)) λl _=>T l=M l)∧(Xc (ptr l2 (0+9)) λl _=>T l=M l)∧C Xv [AD] T AM λAN M AP=>
(Xc (ptr l2 (0+0)) λl _=>M l=T l)∧(Xc (ptr l2 (0+9)) λl _=>M l=T l)∧Zs (.slice (some ⟨AR,0,none⟩) 0 0) AE 1 8 M AP λAO T AW=>
(Xc (ptr l2 (0+0)) λl _=>T l=M l)∧C JV [.agg P.toArray,AJ,AN,AO] T AW λAT M AX=>
Qc AT 0 λAY=>
Qc AT 1 λAZ=>
Jb .int .neq AZ (.int .i64 0) λAa=>
Qa Aa (
Zc K (.bool false) M AX) (
Jb .ptr .eql AY (.pointer none) λAb=>
Qa Ab (
Zc K (.bool false) M AX) (
lfp (Jr C K) (puts (Qi [B,E]) [(2,ptr l2 0),(4,.bool false),(10,(ptr l2 (0+8))),(11,H),(12,(ptr l2 (0+9))),(13,I),(14,E),(15,F),(16,O),(17,.bool false),(18,(ptr l2 (0+0))),(19,.agg Q.toArray),(20,J),(21,U),(22,U),(23,.bool false),(24,(ptr l2 (0+8))),(25,V),(26,W),(27,(ptr l2 (0+0))),(28,(ptr l2 (0+0+0))),(29,X),(30,Y),(31,Y),(32,.bool false),(33,(ptr l2 (0+7))),(34,Z),(35,j),(36,(ptr l2 (0+0))),(37,(ptr l2 (0+0+1))),(38,t),(39,w),(40,w),(41,.bool false),(42,(ptr l2 (0+0))),(43,(ptr l2 (0+0+1))),(44,AA),(45,AB),(46,AB),(49,(ptr l2 (0+0))),(50,.agg P.toArray),(52,(ptr l2 (0+7))),(53,R),(55,(ptr l2 (0+8))),(56,AD),(59,(ptr l2 (0+9))),(60,AE),(58,(.slice (some ⟨AR,0,none⟩) 0 0)),(51,(.slice (some ⟨AG,0,none⟩) 0 0)),(54,AJ),(57,AN),(61,AO),(62,AT),(48,AT),(63,AY),(64,AZ),(5,AY),(6,AZ),(65,AZ),(66,Aa),(67,.bool false),(68,AY),(69,Ab),(70,Ab),(7,.int .i64 0)]) M AX))))))))
theorem Jba (C:CT) (j E:Value) (g:G) (n:Nat) (K:Cont):Jaz C j E g n K=Qe Tryz.prog C QU [j,E] g n K:=by kernel_rfl
def XbA (C:CT) (B:Value) (g:G) (n:Nat) (K:Cont):Prop:=
Jj B λc1=>
Zl c1 .exact g n λl1 B n1=>
kLd B l1 (0+0) λE=>
Jb .int .geq E (.int .i64 1) λE=>
Qa E (
kLd B l1 (0+0) λE=>
Jb .int .leq E (.int .i64 8) λE=>
Qa E (
kLd B l1 (0+1) λE=>
Jb .int .geq E (.int .i64 2) λE=>
Qa E (
kLd B l1 (0+1) λE=>
Jb .int .leq E (.int .i64 64) λE=>
Qa E (
kLd B l1 (0+2) λE=>
Jb .int .geq E (.int .i64 1) λE=>
Qa E (
kLd B l1 (0+2) λE=>
kLd B l1 (0+1) λF=>
Jb .int .lss E F λE=>
Qa E (
kLd B l1 (0+3) λE=>
Jb .int .eql E (.int .i64 1) λE=>
Qa E (
kLd B l1 (0+4) λE=>
Jb .int .geq E (.int .i64 1) λF=>
Qa F (
kLd B l1 (0+4) λH=>
Jb .int .leq H (.int .i64 8) λI=>
Qa I (
kLd B l1 (0+5) λJ=>
Jb .int .geq J (.int .i64 1) λM=>
Qa M (
kLd B l1 (0+5) λO=>
Jb .int .leq O (.int .i64 16) λP=>
Qa P (
kLd B l1 (0+6) λQ=>
Jb .int .geq Q (.int .i64 1) λR=>
Qa R (
kLd B l1 (0+6) λT=>
Jb .int .leq T (.int .i64 16) λU=>
Zc K U B n1) (
Zc K (.bool false) B n1)) (
Zc K (.bool false) B n1)) (
Zc K (.bool false) B n1)) (
Zc K (.bool false) B n1)) (
Zc K (.bool false) B n1)) (
kLd B l1 (0+3) λV=>
Jb .int .eql V (.int .i64 2) λV=>
Qa V (
kLd B l1 (0+4) λE=>
Jb .int .geq E (.int .i64 1) λF=>
Qa F (
kLd B l1 (0+4) λH=>
Jb .int .leq H (.int .i64 8) λI=>
Qa I (
kLd B l1 (0+5) λJ=>
Jb .int .geq J (.int .i64 1) λM=>
Qa M (
kLd B l1 (0+5) λO=>
Jb .int .leq O (.int .i64 16) λP=>
Qa P (
kLd B l1 (0+6) λQ=>
Jb .int .geq Q (.int .i64 1) λR=>
Qa R (
kLd B l1 (0+6) λT=>
Jb .int .leq T (.int .i64 16) λU=>
Zc K U B n1) (
Zc K (.bool false) B n1)) (
Zc K (.bool false) B n1)) (
Zc K (.bool false) B n1)) (
Zc K (.bool false) B n1)) (
Zc K (.bool false) B n1)) (
kLd B l1 (0+3) λV=>
Jb .int .eql V (.int .i64 4) λV=>
Qa V (
kLd B l1 (0+4) λE=>
Jb .int .geq E (.int .i64 1) λF=>
Qa F (
kLd B l1 (0+4) λH=>
Jb .int .leq H (.int .i64 8) λI=>
Qa I (
kLd B l1 (0+5) λJ=>
Jb .int .geq J (.int .i64 1) λM=>
Qa M (
kLd B l1 (0+5) λO=>
Jb .int .leq O (.int .i64 16) λP=>
Qa P (
kLd B l1 (0+6) λQ=>
Jb .int .geq Q (.int .i64 1) λR=>
Qa R (
kLd B l1 (0+6) λT=>
Jb .int .leq T (.int .i64 16) λU=>
Zc K U B n1) (
Zc K (.bool false) B n1)) (
Zc K (.bool false) B n1)) (
Zc K (.bool false) B n1)) (
Zc K (.bool false) B n1)) (
Zc K (.bool false) B n1)) (
kLd B l1 (0+3) λV=>
Jb .int .eql V (.int .i64 8) λV=>
Qa V (
kLd B l1 (0+4) λE=>
Jb .int .geq E (.int .i64 1) λF=>
Qa F (
kLd B l1 (0+4) λH=>
Jb .int .leq H (.int .i64 8) λI=>
Qa I (
kLd B l1 (0+5) λJ=>
Jb .int .geq J (.int .i64 1) λM=>
Qa M (
kLd B l1 (0+5) λO=>
Jb .int .leq O (.int .i64 16) λP=>
Qa P (
kLd B l1 (0+6) λQ=>
Jb .int .geq Q (.int .i64 1) λR=>
Qa R (
kLd B l1 (0+6) λT=>
Jb .int .leq T (.int .i64 16) λU=>
Zc K U B n1) (
Zc K (.bool false) B n1)) (
Zc K (.bool false) B n1)) (
Zc K (.bool false) B n1)) (
Zc K (.bool false) B n1)) (
Zc K (.bool false) B n1)) (
Zc K (.bool false) B n1))))) (
Zc K (.bool false) B n1)) (
Zc K (.bool false) B n1)) (
Zc K (.bool false) B n1)) (
Zc K (.bool false) B n1)) (
Zc K (.bool false) B n1)) (
Zc K (.bool false) B n1)
theorem Xcq (C:CT) (j:Value) (g:G) (n:Nat) (K:Cont):XbA C j g n K=Qe Tryz.prog C Zay [j] g n K:=by kernel_rfl
def Xan (C:CT) (K:Cont) (t:Env) (g:G) (n:Nat):Prop:=
Xc (t 2) λB E=>
kLd g B (E+5) λB=>
C Zda [t 6,B] g n λB E F=>
Qc B 0 λH=>
Qc B 1 λB=>
Jb .int .neq B (.int .i64 0) λI=>
Qa I (
Zc K (.tuple #[.pointer none,B]) E F) (
Xc (t 2) λB I=>
Ql E B I 7 λB=>
Qf [.int .i64 0,.int .i64 0,.int .i64 0,.int .i64 0,.int .i64 0,.int .i64 0,.int .i64 0,.slice none 0 0,.slice none 0 0,.pointer none,.int .i64 0] [(0,some 7,.agg B.toArray),(9,none,H)] λB=>
Jj (.agg B.toArray) λB=>
Zl B .exact E F λB E F=>
C Z8 [ptr B 0] E F λE E F=>
Zc K (.tuple #[ptr B 0,.int .i64 0]) E F)
def Xfz (C:CT) (B E:Value) (g:G) (n:Nat) (K:Cont):Prop:=
Jj B λc2=>
Zl c2 .exact g n λl2 F n2=>
Ql F l2 0 7 λH=>
C Jch [.agg H.toArray] F n2 λF I J=>
kUn .not F λM=>
Qa M (
Zc K (.tuple #[.pointer none,.int .i64 1]) I J) (
Jak E λO=>
Jb .int .neq O (.int .i64 0) λP=>
Qa P (
Jak E λQ=>
kLd I l2 (0+1) λR=>
Jb .int .neq Q R λT=>
Qa T (
Zc K (.tuple #[.pointer none,.int .i64 1]) I J) (
kLd I l2 (0+1) λU=>
kLd I l2 (0+2) λV=>
C JbD [U,V] I J λW X Y=>
Qc W 0 λZ=>
Qc W 1 λj=>
Jb .int .neq j (.int .i64 0) λt=>
Qa t (
Zc K (.tuple #[.pointer none,j]) X Y) (
Jak E λw=>
Jb .int .gtr w (.int .i64 0) λAA=>
Qa AA (
C Q7 [Z,E] X Y λAB AD AE=>
C ZF [Z] AD AE λAD AF AG=>
Xan C K (puts (Qi [B,E]) [(2,ptr l2 0),(4,.pointer none),(5,.int .i64 0),(10,.agg H.toArray),(11,F),(12,M),(13,.bool false),(14,E),(15,O),(16,P),(17,.bool true),(18,E),(19,Q),(20,(ptr l2 (0+1))),(21,R),(22,T),(23,T),(24,T),(26,(ptr l2 (0+1))),(27,U),(28,(ptr l2 (0+2))),(29,V),(30,W),(25,W),(31,Z),(32,j),(6,Z),(7,j),(33,j),(34,t),(36,E),(37,w),(38,AA),(39,Z),(40,E),(41,AB),(42,Z),(43,AD)]) AF AG) (
Xan C K (puts (Qi [B,E]) [(2,ptr l2 0),(4,.pointer none),(5,.int .i64 0),(10,.agg H.toArray),(11,F),(12,M),(13,.bool false),(14,E),(15,O),(16,P),(17,.bool true),(18,E),(19,Q),(20,(ptr l2 (0+1))),(21,R),(22,T),(23,T),(24,T),(26,(ptr l2 (0+1))),(27,U),(28,(ptr l2 (0+2))),(29,V),(30,W),(25,W),(31,Z),(32,j),(6,Z),(7,j),(33,j),(34,t),(36,E),(37,w),(38,AA)]) X Y)))) (
kLd I l2 (0+1) λU=>
kLd I l2 (0+2) λV=>
C JbD [U,V] I J λW I Y=>
Qc W 0 λZ=>
Qc W 1 λj=>
Jb .int .neq j (.int .i64 0) λt=>
Qa t (
Zc K (.tuple #[.pointer none,j]) I Y) (
Jak E λw=>
Jb .int .gtr w (.int .i64 0) λAA=>
Qa AA (
C Q7 [Z,E] I Y λAB J AE=>
C ZF [Z] J AE λAD J AG=>
Xan C K (puts (Qi [B,E]) [(2,ptr l2 0),(4,.pointer none),(5,.int .i64 0),(10,.agg H.toArray),(11,F),(12,M),(13,.bool false),(14,E),(15,O),(16,P),(17,.bool false),(18,undef),(19,undef),(20,undef),(21,undef),(22,undef),(23,.bool false),(24,.bool false),(26,(ptr l2 (0+1))),(27,U),(28,(ptr l2 (0+2))),(29,V),(30,W),(25,W),(31,Z),(32,j),(6,Z),(7,j),(33,j),(34,t),(36,E),(37,w),(38,AA),(39,Z),(40,E),(41,AB),(42,Z),(43,AD)]) J AG) (
Xan C K (puts (Qi [B,E]) [(2,ptr l2 0),(4,.pointer none),(5,.int .i64 0),(10,.agg H.toArray),(11,F),(12,M),(13,.bool false),(14,E),(15,O),(16,P),(17,.bool false),(18,undef),(19,undef),(20,undef),(21,undef),(22,undef),(23,.bool false),(24,.bool false),(26,(ptr l2 (0+1))),(27,U),(28,(ptr l2 (0+2))),(29,V),(30,W),(25,W),(31,Z),(32,j),(6,Z),(7,j),(33,j),(34,t),(36,E),(37,w),(38,AA)]) I Y))))
theorem Qfg (C:CT) (j E:Value) (g:G) (n:Nat) (K:Cont):Xfz C j E g n K=Qe Tryz.prog C JcC [j,E] g n K:=by kernel_rfl
def JbY (C:CT) (B E F H:Value) (g:G) (n:Nat) (K:Cont):Prop:=
C Xn [B,E] g n λE I J=>
Jb .ptr .eql E (.pointer none) λM=>
Qa M (
Zc K (.tuple #[.int .u64 0,.bool false]) I J) (
C Jo [B,F] I J λB I J=>
kUn .not B λB=>
Qa B (
Zc K (.tuple #[.int .u64 0,.bool false]) I J) (
Xf E λB=>
Xc B λB M=>
kLd I B (M+0) λB=>
C JaG [B,F,H] I J λB F H=>
Qc B 0 λI=>
Qc B 1 λJ=>
Qc B 2 λB=>
C X3 [E,B] F H λB B E=>
Zc K (.tuple #[I,J]) B E))
theorem XcE (C:CT) (j I E J:Value) (g:G) (n:Nat) (K:Cont):JbY C j I E J g n K=Qe Tryz.prog C Xag [j,I,E,J] g n K:=by kernel_rfl
def Xbx (C:CT) (B E F H:Value) (g:G) (n:Nat) (K:Cont):Prop:=
C Xn [B,E] g n λE I J=>
Jb .ptr .eql E (.pointer none) λM=>
Qa M (
Zc K (.int .i64 1) I J) (
C Jo [B,F] I J λB I J=>
kUn .not B λB=>
Qa B (
Zc K (.int .i64 1) I J) (
Jb .int .neq H (.int .i64 4) λB=>
Qa B (
Jb .int .neq H (.int .i64 5) λB=>
Qa B (
Zc K (.int .i64 1) I J) (
Xf E λB=>
Xc B λM O=>
Qf [.int .i64 0,.int .i64 0,.bool false,.bool false,.int .u64 0,.int .u64 0,.int .u64 0,.int .u64 0,.int .u64 0,.int .u64 0,.int .u64 0,.int .u64 0] [(0,none,H),(1,none,F)] λP=>
C Qs [(ptr M (O+1)),.agg P.toArray] I J λQ R T=>
Zc K Q R T)) (
Xf E λB=>
Xc B λM O=>
Qf [.int .i64 0,.int .i64 0,.bool false,.bool false,.int .u64 0,.int .u64 0,.int .u64 0,.int .u64 0,.int .u64 0,.int .u64 0,.int .u64 0,.int .u64 0] [(0,none,H),(1,none,F)] λP=>
C Qs [(ptr M (O+1)),.agg P.toArray] I J λQ B T=>
Zc K Q B T)))
theorem Jcp (C:CT) (j I E J:Value) (g:G) (n:Nat) (K:Cont):Xbx C j I E J g n K=Qe Tryz.prog C Xax [j,I,E,J] g n K:=by kernel_rfl
def Zbl (C:CT) (B:Value) (g:G) (n:Nat) (K:Cont):Prop:=
Jb .ptr .eql B (.pointer none) λE=>
Qa E (
Zc K (.slice none 0 0) g n) (
Xf B λB=>
Xc B λl7 B=>
kLd g l7 (B+9) λB=>
C ZaQ [B] g n λB E F=>
Zc K B E F)
theorem Zcd (C:CT) (j:Value) (g:G) (n:Nat) (K:Cont):Zbl C j g n K=Qe Tryz.prog C QM [j] g n K:=by kernel_rfl
def QbY (C:CT) (B E:Value) (g:G) (n:Nat) (K:Cont):Prop:=
C Jo [B,E] g n λF H I=>
kUn .not F λF=>
Qa F (
Zc K (.int .i64 1) H I) (
Xf B λF=>
Xc F λF J=>
kLd H F (J+8) λF=>
Jd F E 15 λF=>
Xc F λF J=>
Ql H F J 15 λF=>
Zl [.bool false,.bool false,.int .u64 0,.int .u64 0,.int .u64 0,.int .u64 0,.int .u64 0,.int .u64 0,.int .u64 0,.int .u64 0,.int .i64 0,.int .u8 0,.int .i64 0,.int .i64 0,.int .u8 0] .exact H I λl5 H n5=>
Jj (.agg F.toArray) λF=>
F.length=15∧Qu H l5 0 F λF=>
kLd F l5 (0+0) λH=>
kUn .not H λH=>
Qa H (
Zc K (.int .i64 16) F n5) (
kLd F l5 (0+10) λH=>
Jb .int .geq H (.int .i64 0) λH=>
Qa H (
Zc K (.int .i64 16) F n5) (
kLd F l5 (0+11) λH=>
Jb .int .neq H (.int .u8 0) λH=>
Qa H (
Zc K (.int .i64 16) F n5) (
kLd F l5 (0+12) λH=>
Jb .int .neq H (.int .i64 0) λH=>
Qa H (
Zc K (.int .i64 16) F n5) (
C J7 [B,E] F n5 λF H I=>
Jb .int .neq F (.int .i64 0) λJ=>
Qa J (
Zc K F H I) (
Xf B λB=>
Xc B λB F=>
kLd H B (F+8) λJ=>
C Zbr [] H I λI M O=>
(Xc (ptr B (F+8)) λl _=>M l=H l)∧Jd J E 15 λB=>
Xc B λB E=>
Jj I λF=>
F.length=15∧Qu M B E F λB=>
Zc K (.int .i64 0) B O))))))
theorem XcA (C:CT) (j E:Value) (g:G) (n:Nat) (K:Cont):QbY C j E g n K=Qe Tryz.prog C XaD [j,E] g n K:=by kernel_rfl
def Zbz (C:CT) (B E F:Value) (g:G) (n:Nat) (K:Cont):Prop:=
C Xn [B,E] g n λE H I=>
Jb .ptr .eql E (.pointer none) λJ=>
Qa J (
Zc K (.int .i64 1) H I) (
C Jo [B,F] H I λB H I=>
kUn .not B λB=>
Qa B (
Zc K (.int .i64 1) H I) (
Xf E λB=>
Xc B λB J=>
kLd H B (J+0) λB=>
C Zax [B,F] H I λB F H=>
Qc B 0 λI=>
Qc B 1 λB=>
C X3 [E,I] F H λE E F=>
Zc K B E F))
theorem Jcs (C:CT) (j I E:Value) (g:G) (n:Nat) (K:Cont):Zbz C j I E g n K=Qe Tryz.prog C Jay [j,I,E] g n K:=by kernel_rfl
def ZbJ (C:CT) (B E:Value) (g:G) (n:Nat) (K:Cont):Prop:=
C Xn [B,E] g n λB E F=>
Jb .ptr .eql B (.pointer none) λH=>
Qa H (
Zc K (.slice none 0 0) E F) (
Xf B λB=>
Xc B λB H=>
kLd E B (H+0) λB=>
C Qav [B] E F λB E F=>
Zc K B E F)
theorem Jcr (C:CT) (j E:Value) (g:G) (n:Nat) (K:Cont):ZbJ C j E g n K=Qe Tryz.prog C Xay [j,E] g n K:=by kernel_rfl
def Zbw (C:CT) (B E:Value) (g:G) (n:Nat) (K:Cont):Prop:=
Zl [.bool false,.bool false,.int .u64 0,.int .u64 0,.int .u64 0,.int .u64 0,.int .u64 0,.int .u64 0,.int .u64 0,.int .u64 0,.int .i64 0,.int .u8 0,.int .i64 0,.int .i64 0,.int .u8 0] .exact g n λl4 F H=>
C Jo [B,E] F H λF H I=>
kUn .not F λF=>
Qa F (
C Zbr [] H I λF J M=>
Jj F λF=>
F.length=15∧Qu J l4 0 F λF=>
Ql F l4 0 15 λr0=>
Zc K (.agg r0.toArray) F M) (
Xf B λB=>
Xc B λB F=>
kLd H B (F+8) λB=>
Jd B E 15 λB=>
Xc B λB E=>
Ql H B E 15 λB=>
Jj (.agg B.toArray) λB=>
B.length=15∧Qu H l4 0 B λB=>
Ql B l4 0 15 λr0=>
Zc K (.agg r0.toArray) B I)
theorem Zcs (C:CT) (j E:Value) (g:G) (n:Nat) (K:Cont):Zbw C j E g n K=Qe Tryz.prog C Zaa [j,E] g n K:=by kernel_rfl
def Qaw (C:CT) (K:Cont) (t:Env) (g:G) (n:Nat):Prop:=
Jak (t 0) λB=>
Jb .int .leq B (.int .i64 20) λB=>
Qa B (
Jak (t 1) λB=>
Jb .int .leq B (.int .i64 1000) λB=>
Qa B (
Jak (t 2) λB=>
Jb .int .leq B (.int .i64 1500) λB=>
Zc K B g n) (
Zc K (.bool false) g n)) (
Zc K (.bool false) g n)
def Xa6 (C:CT) (K:Cont) (I_l1:Qk) (t:Env) (g:G) (n:Nat):Prop:=
Jak (t 0) λB=>
Jb .int .lss (t 7) B λE=>
Qa E (
Jd (t 0) (t 7) 1 λF=>
Xc F λH I=>
kLd g H I λH=>
Jak H λI=>
Jb .int .gtr I (.int .i64 1000) λJ=>
Qa J (
Zc K (.bool false) g n) (
Jb .int .add (t 7) (.int .i64 1) λM=>
I_l1 (puts t [(8,t 7),(9,t 0),(10,B),(11,E),(14,t 0),(15,t 7),(16,F),(17,H),(18,I),(19,J),(12,t 7),(13,M),(7,M)]) g n)) (
Qaw C K (puts t [(8,t 7),(9,t 0),(10,B),(11,E)]) g n)
def QbF (C:CT) (B E F:Value) (g:G) (n:Nat) (K:Cont):Prop:=
lfp (Xa6 C K) (puts (Qi [B,E,F]) [(6,.bool false),(7,.int .i64 0)]) g n
theorem Xcs (C:CT) (j I E:Value) (g:G) (n:Nat) (K:Cont):QbF C j I E g n K=Qe Tryz.prog C Zav [j,I,E] g n K:=by kernel_rfl
def Qbs (C:CT) (K:Cont) (t:Env) (g:G) (n:Nat):Prop:=
Xc (t 4) λB E=>
kLd g B (E+6) λB=>
C Qbc [.int .i64 0,B,t 3] g n λB E F=>
Qc B 0 λH=>
Qc B 1 λB=>
Jb .int .neq B (.int .i64 0) λH=>
Qa H (
Zc K (.tuple #[.pointer none,B]) E F) (
Zc K (.tuple #[t 12,.int .i64 0]) E F)
def Jcu (C:CT) (K:Cont) (I_l1:Qk) (t:Env) (g:G) (n:Nat):Prop:=
Jb .int .lss (t 40) (t 39) λB=>
Qa B (
Jd (t 38) (t 40) 1 λE=>
Xc E λF H=>
kLd g F H λF=>
Xc (t 4) λH I=>
kLd g H (I+6) λJ=>
C Qbc [t 40,J,F] g n λM O P=>
Qc M 0 λQ=>
Qc M 1 λR=>
Jb .int .neq R (.int .i64 0) λT=>
Qa T (
Zc K (.tuple #[.pointer none,R]) O P) (
Xf (t 12) λU=>
Xc U λV W=>
kLd O V (W+1) λX=>
Qf (reps 1 [.pointer none]) [(0,none,Q)] λY=>
Zl Y .exact O P λO P Y=>
Zs X (.slice (some ⟨O,0,none⟩) 1 1) 1 8 P Y λP Y Z=>
Xf (t 12) λj=>
Xc j λw AA=>
kSt Y w (AA+1) P λY=>
Jb .int .add (t 40) (.int .i64 1) λAB=>
I_l1 (puts t [(41,B),(42,t 40),(43,E),(44,F),(13,t 40),(14,F),(46,t 40),(47,(ptr H (I+6))),(48,J),(49,F),(50,M),(45,M),(51,Q),(52,R),(15,Q),(16,R),(53,R),(54,T),(56,t 12),(57,t 12),(58,U),(59,(ptr V (W+1))),(60,X),(61,Q),(62,(.slice (some ⟨O,0,none⟩) 1 1)),(63,P),(64,j),(65,(ptr w (AA+1))),(66,AB),(40,AB)]) Y Z)) (
Qbs C K (puts t [(41,B)]) g n)
def ZdG (C:CT) (B E F H:Value) (g:G) (n:Nat) (K:Cont):Prop:=
Jj B λc4=>
Zl c4 .exact g n λl4 I J=>
Ql I l4 0 7 λM=>
C JcC [.agg M.toArray,E] I J λI J O=>
Qc I 0 λP=>
Qc I 1 λQ=>
Jb .int .neq Q (.int .i64 0) λR=>
Qa R (
Zc K (.tuple #[.pointer none,Q]) J O) (
Jak F λT=>
kLd J l4 (0+0) λU=>
Jb .int .neq T U λV=>
Qa V (
Zc K (.tuple #[.pointer none,.int .i64 1]) J O) (
C JP [H] J O λJ O W=>
Qf [.pointer none,.slice none 0 0,.slice none 0 0,.int .i64 0] [(0,none,P),(2,none,J)] λX=>
Jj (.agg X.toArray) λY=>
Zl Y .exact O W λO W Y=>
Jak F λZ=>
lfp (Jcu C K) (puts (Qi [B,E,F,H]) [(4,ptr l4 0),(8,.pointer none),(9,.int .i64 0),(20,.agg M.toArray),(21,E),(22,I),(19,I),(23,P),(24,Q),(10,P),(11,Q),(25,Q),(26,R),(28,F),(29,T),(30,(ptr l4 (0+0))),(31,U),(32,V),(33,P),(34,H),(35,J),(36,.agg X.toArray),(37,ptr O 0),(12,ptr O 0),(38,F),(39,Z),(40,.int .i64 0)]) W Y))
theorem ZdY (C:CT) (j I E J:Value) (g:G) (n:Nat) (K:Cont):ZdG C j I E J g n K=Qe Tryz.prog C JV [j,I,E,J] g n K:=by kernel_rfl
def JaR (C:CT) (B:Value) (g:G) (n:Nat) (K:Cont):Prop:=
Jb .ptr .eql B (.pointer none) λE=>
Qa E (
Zc K (.pointer none) g n) (
Xf B λB=>
Xc B λl7 B=>
kLd g l7 (B+0) λB=>
Zc K B g n)
theorem Zbs (C:CT) (j:Value) (g:G) (n:Nat) (K:Cont):JaR C j g n K=Qe Tryz.prog C XB [j] g n K:=by kernel_rfl
def Jbq (C:CT) (B E:Value) (g:G) (n:Nat) (K:Cont):Prop:=
Jj E λc3=>
Zl c3 .exact g n λl3 E n3=>
Jb .ptr .eql B (.pointer none) λF=>
Qa F (
Zc K (.slice none 0 0) E n3) (
kLd E l3 (0+0) λF=>
Jb .int .lss F (.int .i64 1) λF=>
Qa F (
Zc K (.slice none 0 0) E n3) (
kLd E l3 (0+0) λF=>
Jb .int .gtr F (.int .i64 10) λF=>
Qa F (
Zc K (.slice none 0 0) E n3) (
kLd E l3 (0+0) λF=>
Ql E l3 0 3 λH=>
C Jbj [] E n3 λI J M=>
(Xc (ptr l3 (0+0)) λl _=>J l=E l)∧(Xc (ptr l3 0) λl _=>J l=E l)∧JdY I F 11 1 none λE=>
Qbu C E [B,.agg H.toArray] J M λB E F=>
Zc K B E F)))
theorem Zca (C:CT) (j E:Value) (g:G) (n:Nat) (K:Cont):Jbq C j E g n K=Qe Tryz.prog C JK [j,E] g n K:=by kernel_rfl
def JaZ (C:CT) (K:Cont) (I_l1:Qk) (t:Env) (g:G) (n:Nat):Prop:=
Jb .int .add (t 7) (.int .i64 1) λB=>
I_l1 (puts t [(45,t 7),(46,B),(7,B)]) g n
def Jaq (C:CT) (K:Cont) (I_l1:Qk) (I_l2:Qk) (t:Env) (g:G) (n:Nat):Prop:=
Jak (t 8) λB=>
Jb .int .lss (t 9) B λE=>
Qa E (
Qa (t 6) (
Jb .int .add (t 9) (.int .i64 1) λF=>
I_l2 (puts t [(51,t 9),(52,t 8),(53,B),(54,E),(57,t 6),(58,.bool true),(59,undef),(60,undef),(61,undef),(62,undef),(63,undef),(64,undef),(65,undef),(66,undef),(67,undef),(68,undef),(69,undef),(70,undef),(71,undef),(72,undef),(73,.bool true),(6,.bool true),(55,t 9),(56,F),(9,F)]) g n) (
Jd (t 8) (t 9) 5 λH=>
Xc H λI J=>
kLd g I (J+0) λM=>
Jb .int .eql M (.int .i64 8) λO=>
Qa O (
Jd (t 8) (t 9) 5 λP=>
Xc P λQ R=>
kLd g Q (R+4) λT=>
Jb .int .eql T (.int .u64 5) λU=>
Jb .int .add (t 9) (.int .i64 1) λF=>
I_l2 (puts t [(51,t 9),(52,t 8),(53,B),(54,E),(57,t 6),(58,.bool false),(59,t 8),(60,t 9),(61,H),(62,(ptr I (J+0))),(63,M),(64,O),(65,.bool true),(66,t 8),(67,t 9),(68,P),(69,(ptr Q (R+4))),(70,T),(71,U),(72,U),(73,U),(6,U),(55,t 9),(56,F),(9,F)]) g n) (
Jb .int .add (t 9) (.int .i64 1) λF=>
I_l2 (puts t [(51,t 9),(52,t 8),(53,B),(54,E),(57,t 6),(58,.bool false),(59,t 8),(60,t 9),(61,H),(62,(ptr I (J+0))),(63,M),(64,O),(65,.bool false),(66,undef),(67,undef),(68,undef),(69,undef),(70,undef),(71,undef),(72,.bool false),(73,.bool false),(6,.bool false),(55,t 9),(56,F),(9,F)]) g n))) (
JaZ C K I_l1 (puts t [(51,t 9),(52,t 8),(53,B),(54,E)]) g n)
def XM (C:CT) (K:Cont) (t:Env) (g:G) (n:Nat):Prop:=
C XB [t 4] g n λB E F=>
C QM [B] E F λB E F=>
Qa (t 6) (
C Xp [t 4] E F λH I J=>
Qa H (
Jak B λH=>
Jb .int .eql H (.int .i64 6) λH=>
Qa H (
Jd B (.int .i64 3) 8 λB=>
Ji B (.int .i64 0) 8 1 λB=>
Xc B λB H=>
kLd I B H λB=>
Jb .int .eql B (.int .u64 5) λB=>
Qa B (
C Jk [t 4,.int .i64 0] I J λB H M=>
Jb .ptr .neq B (.pointer none) λB=>
Qa B (
C Jk [t 4,.int .i64 2] H M λB O P=>
Jb .ptr .eql B (.pointer none) λB=>
Qa B (
C Xab [t 4] O P λB Q R=>
Jb .int .eql B (.int .i64 0) λB=>
Zc K B Q R) (
Zc K (.bool false) O P)) (
Zc K (.bool false) H M)) (
Zc K (.bool false) I J)) (
Zc K (.bool false) I J)) (
Zc K (.bool false) I J)) (
Zc K (.bool false) E F)
def Ja0 (C:CT) (K:Cont) (I_l1:Qk) (t:Env) (g:G) (n:Nat):Prop:=
Jb .int .lss (t 7) (.int .i64 40) λB=>
Qa B (
C Xp [t 4] g n λE F H=>
kUn .not E λI=>
Qa I (
Xc (t 1) λJ M=>
Ql F J M 7 λJ=>
C Z4 [.agg J.toArray] F H λM O P=>
C XU [t 4,M] O P λO P Q=>
lfp (Jaq C K I_l1) (puts t [(38,t 7),(39,B),(40,.bool true),(41,t 4),(42,E),(43,I),(44,I),(47,t 4),(48,.agg J.toArray),(49,M),(50,O),(8,O),(9,.int .i64 0)]) P Q) (
XM C K (puts t [(38,t 7),(39,B),(40,.bool true),(41,t 4),(42,E),(43,I),(44,I)]) F H)) (
XM C K (puts t [(38,t 7),(39,B),(40,.bool false),(41,undef),(42,undef),(43,undef),(44,.bool false)]) g n)
def Qbm (C:CT) (g:G) (n:Nat) (K:Cont):Prop:=
C Qaq [] g n λB E F=>
Zl [.int .i64 0,.int .i64 0,.int .i64 0,.int .i64 0,.int .i64 0,.int .i64 0,.int .i64 0] .exact E F λl1 E n1=>
Jj B λF=>
F.length=7∧Qu E l1 0 F λE=>
Qf [.int .i64 0,.int .i64 0,.int .i64 0,.int .i64 0,.int .i64 0] [(0,none,.int .i64 1),(1,none,.int .i64 1),(4,none,.int .i64 5)] λF=>
Qf [.int .i64 0,.int .i64 0,.int .i64 0,.int .i64 0,.int .i64 0] [(0,none,.int .i64 9),(1,none,.int .i64 1),(4,none,.int .i64 192)] λH=>
Qf [.int .i64 0,.int .i64 0,.int .i64 0,.int .i64 0,.int .i64 0] [(0,none,.int .i64 12),(4,none,.int .i64 192)] λI=>
Qf [.int .i64 0,.int .i64 0,.int .i64 0,.int .i64 0,.int .i64 0] [(0,none,.int .i64 15)] λJ=>
Qf [.int .i64 0,.int .i64 0,.int .i64 0,.int .i64 0,.int .i64 0] [(0,none,.int .i64 21),(1,none,.int .i64 1)] λM=>
Qf [.int .i64 0,.int .i64 0,.int .i64 0,.int .i64 0,.int .i64 0] [(0,none,.int .i64 22)] λO=>
Qf (reps 6 [.int .i64 0,.int .i64 0,.int .i64 0,.int .i64 0,.int .i64 0]) [(0,some 5,.agg F.toArray),(5,some 5,.agg H.toArray),(10,some 5,.agg I.toArray),(15,some 5,.agg J.toArray),(20,some 5,.agg M.toArray),(25,some 5,.agg O.toArray)] λP=>
Zl P .exact E n1 λE P Q=>
C X9 [(.slice (some ⟨E,0,none⟩) 6 6)] P Q λP Q R=>
Qf [.int .i64 0,.int .i64 0,.int .i64 0,.int .i64 0,.int .i64 0] [(0,none,.int .i64 22)] λT=>
Qf (reps 1 [.int .i64 0,.int .i64 0,.int .i64 0,.int .i64 0,.int .i64 0]) [(0,some 5,.agg T.toArray)] λU=>
Zl U .exact Q R λQ R U=>
C X9 [(.slice (some ⟨Q,0,none⟩) 1 1)] R U λR U V=>
Ql U l1 0 7 λW=>
Qf (reps 2 [.slice none 0 0]) [(0,none,P),(1,none,R)] λX=>
Zl X .exact U V λU V X=>
C JV [.agg W.toArray,.slice none 0 0,(.slice (some ⟨U,0,none⟩) 2 2),R] V X λV X Y=>
Qc V 0 λZ=>
Qc V 1 λj=>
Jb .int .neq j (.int .i64 0) λt=>
Qa t (
Zc K (.bool false) X Y) (
Jb .ptr .eql Z (.pointer none) λw=>
Qa w (
Zc K (.bool false) X Y) (
lfp (Ja0 C K) (puts (Qi []) [(0,.bool false),(11,B),(1,ptr l1 0),(12,.agg F.toArray),(13,.agg H.toArray),(14,.agg I.toArray),(15,.agg J.toArray),(16,.agg M.toArray),(17,.agg O.toArray),(18,(.slice (some ⟨E,0,none⟩) 6 6)),(19,P),(2,P),(20,.agg T.toArray),(21,(.slice (some ⟨Q,0,none⟩) 1 1)),(22,R),(3,R),(24,.agg W.toArray),(25,P),(26,R),(27,(.slice (some ⟨U,0,none⟩) 2 2)),(28,R),(29,V),(23,V),(30,Z),(31,j),(4,Z),(5,j),(32,j),(33,t),(34,.bool false),(35,Z),(36,w),(37,w),(6,.bool false),(7,.int .i64 0)]) X Y))
theorem Qci (C:CT) (g:G) (n:Nat) (K:Cont):Qbm C g n K=Qe Tryz.prog C Zn [] g n K:=by kernel_rfl
def QaS (C:CT) (K:Cont) (I_l1:Qk) (t:Env) (g:G) (n:Nat):Prop:=
Jak (t 0) λB=>
Jb .int .lss (t 4) B λE=>
Qa E (
Qf (reps 0 [.int .u64 0]) [] λF=>
Zl F .exact g n λF H I=>
Jd (t 0) (t 4) 1 λJ=>
Xc J λM O=>
kLd H M O λM=>
Zs (.slice (some ⟨F,0,none⟩) 0 0) M 1 8 H I λH I O=>
Qf (reps 1 [.slice none 0 0]) [(0,none,H)] λP=>
Zl P .exact I O λI O P=>
Zs (t 3) (.slice (some ⟨I,0,none⟩) 1 1) 1 24 O P λO P Q=>
Jb .int .add (t 4) (.int .i64 1) λR=>
I_l1 (puts t [(5,t 4),(6,t 0),(7,B),(8,E),(11,t 3),(12,(.slice (some ⟨F,0,none⟩) 0 0)),(13,t 0),(14,t 4),(15,J),(16,M),(17,H),(18,(.slice (some ⟨I,0,none⟩) 1 1)),(19,O),(3,O),(9,t 4),(10,R),(4,R)]) P Q) (
Zc K (t 3) g n)
def Jbe (C:CT) (B:Value) (g:G) (n:Nat) (K:Cont):Prop:=
lfp (QaS C K) (puts (Qi [B]) [(2,.slice none 0 0),(3,.slice none 0 0),(4,.int .i64 0)]) g n
theorem Xb3 (C:CT) (j:Value) (g:G) (n:Nat) (K:Cont):Jbe C j g n K=Qe Tryz.prog C Xv [j] g n K:=by kernel_rfl
def Xa5 (C:CT) (K:Cont) (I_l1:Qk) (t:Env) (g:G) (n:Nat):Prop:=
Jak (t 0) λB=>
Jb .int .lss (t 5) B λE=>
Qa E (
Jd (t 0) (t 5) 8 λF=>
Xc F λH I=>
Ql g H I 8 λH=>
Jd (t 1) (t 5) 8 λI=>
Xc I λJ M=>
Ql g J M 8 λJ=>
Jb (.agg [.i,.i,.i,.i,.i,.i,.i,.i]) .neq (.agg H.toArray) (.agg J.toArray) λM=>
Qa M (
Zc K (.bool false) g n) (
Jb .int .add (t 5) (.int .i64 1) λO=>
I_l1 (puts t [(11,t 5),(12,t 0),(13,B),(14,E),(17,t 0),(18,t 5),(19,F),(20,.agg H.toArray),(21,t 1),(22,t 5),(23,I),(24,.agg J.toArray),(25,M),(15,t 5),(16,O),(5,O)]) g n)) (
Zc K (.bool true) g n)
def QbB (C:CT) (B E:Value) (g:G) (n:Nat) (K:Cont):Prop:=
Jak B λF=>
Jak E λH=>
Jb .int .neq F H λI=>
Qa I (
Zc K (.bool false) g n) (
lfp (Xa5 C K) (puts (Qi [B,E]) [(4,.bool false),(6,B),(7,F),(8,E),(9,H),(10,I),(5,.int .i64 0)]) g n)
theorem Xco (C:CT) (j E:Value) (g:G) (n:Nat) (K:Cont):QbB C j E g n K=Qe Tryz.prog C Jaw [j,E] g n K:=by kernel_rfl
def Qaa (C:CT) (K:Cont) (I_l1:Qk) (I_l2:Qk) (t:Env) (g:G) (n:Nat):Prop:=
Jb .int .lss (t 60) (t 59) λB=>
Qa B (
Jd (t 58) (t 60) 11 λE=>
Xc E λF H=>
Ql g F H 11 λF=>
Zl [.int .i64 0,.int .i64 0,.int .u64 0,.int .u64 0,.int .u64 0,.int .u64 0,.int .u64 0,.int .u64 0,.int .u64 0,.int .u64 0,.int .i64 0] .exact g n λH I J=>
Jj (.agg F.toArray) λM=>
M.length=11∧Qu I H 0 M λI=>
kLd I H (0+0) λM=>
Jb .int .gtr M (.int .i64 3) λO=>
Qa O (
Zc K (.bool false) I J) (
Jb .int .add (t 60) (.int .i64 1) λP=>
I_l2 (puts t [(61,B),(62,E),(63,.agg F.toArray),(9,ptr H 0),(64,(ptr H (0+0))),(65,M),(66,O),(67,P),(60,P)]) I J)) (
Jb .int .add (t 18) (.int .i64 1) λE=>
I_l1 (puts t [(61,B),(68,E),(18,E)]) g n)
def JaI (C:CT) (K:Cont) (I_l4:Qk) (t:Env) (g:G) (n:Nat):Prop:=
Jb .int .lss (t 75) (t 74) λB=>
Qa B (
Xf (t 0) λE=>
Xc E λF H=>
kLd g F (H+0) λI=>
C Zaa [I,t 75] g n λJ M O=>
Jj J λP=>
Xbf P 12 none λP=>
Jb .int .neq P (.int .i64 0) λQ=>
Qa Q (
Zc K (.bool false) M O) (
Jb .int .add (t 75) (.int .i64 1) λR=>
I_l4 (puts t [(76,B),(77,t 75),(10,t 75),(78,t 0),(79,E),(80,(ptr F (H+0))),(81,I),(82,t 75),(83,J),(84,P),(85,Q),(86,R),(75,R)]) M O)) (
Zc K (.bool true) g n)
def Qab (C:CT) (K:Cont) (t:Env) (g:G) (n:Nat):Prop:=
Xf (t 0) λB=>
Xc B λE F=>
kLd g E (F+0) λH=>
C QK [H] g n λI J M=>
Jj I λO=>
Xbf O 1 none λO=>
lfp (JaI C K) (puts t [(69,t 0),(70,B),(71,(ptr E (F+0))),(72,H),(73,I),(74,O),(75,.int .i64 0)]) J M
def ZaI (C:CT) (K:Cont) (I_l1:Qk) (t:Env) (g:G) (n:Nat):Prop:=
Jb .int .lss (t 18) (t 17) λB=>
Qa B (
Jd (t 16) (t 18) 1 λE=>
Xc E λF H=>
kLd g F H λF=>
Xf (t 0) λH=>
Xc H λI J=>
kLd g I (J+0) λM=>
C Xao [M,t 18] g n λO P Q=>
Qc O 0 λR=>
Qc O 1 λT=>
Qc O 2 λU=>
C QaV [F] P Q λP Q V=>
Qa P (
Zc K (.bool false) Q V) (
C QaH [F] Q V λQ V W=>
Jak Q λX=>
C XaP [F] V W λV W Y=>
Jb .int .add X V λZ=>
Jak R λj=>
Jb .int .add Z j λw=>
Jak T λAA=>
Jb .int .add w AA λAB=>
Jak U λAD=>
Jb .int .add AB AD λAE=>
Jb .int .gtr AE (.int .i64 0) λAF=>
Qa AF (
Zc K (.bool false) W Y) (
Xf (t 0) λAG=>
Xc AG λAH AI=>
kLd W AH (AI+0) λAJ=>
C Xay [AJ,t 18] W Y λW Y AL=>
Jak W λAM=>
lfp (Qaa C K I_l1) (puts t [(19,B),(20,t 18),(21,E),(22,F),(3,t 18),(4,F),(24,t 0),(25,H),(26,(ptr I (J+0))),(27,M),(28,t 18),(29,O),(23,O),(30,R),(31,T),(32,U),(5,R),(6,T),(7,U),(33,F),(34,P),(35,.bool false),(36,F),(37,Q),(38,X),(39,F),(40,V),(41,Z),(42,R),(43,j),(44,w),(45,T),(46,AA),(47,AB),(48,U),(49,AD),(50,AE),(51,AF),(52,AF),(53,t 0),(54,AG),(55,(ptr AH (AI+0))),(56,AJ),(57,t 18),(58,W),(59,AM),(60,.int .i64 0)]) Y AL))) (
Qab C K (puts t [(19,B)]) g n)
def Ja2 (C:CT) (B:Value) (g:G) (n:Nat) (K:Cont):Prop:=
Jb .ptr .eql B (.pointer none) λE=>
Qa E (
Zc K (.bool false) g n) (
Xf B λF=>
Xc F λH I=>
kLd g H (I+1) λJ=>
Jak J λM=>
lfp (ZaI C K) (puts (Qi [B]) [(2,.bool false),(11,B),(12,E),(13,B),(14,F),(15,(ptr H (I+1))),(16,J),(17,M),(18,.int .i64 0)]) g n)
theorem Qbx (C:CT) (j:Value) (g:G) (n:Nat) (K:Cont):Ja2 C j g n K=Qe Tryz.prog C Xp [j] g n K:=by kernel_rfl
def ZaM (C:CT) (K:Cont) (I_l1:Qk) (t:Env) (g:G) (n:Nat):Prop:=
Jb .int .lss (t 14) (t 13) λB=>
Qa B (
Jd (t 12) (t 14) 3 λE=>
Xc E λF H=>
Ql g F H 3 λF=>
Zl [.int .i64 0,.int .i64 0,.int .i64 0] .exact g n λl7 H I=>
Jj (.agg F.toArray) λJ=>
J.length=3∧Qu H l7 0 J λH=>
Ql H l7 0 3 λJ=>
C JK [t 0,.agg J.toArray] H I λH I M=>
Zs (t 5) H 5 40 I M λI M O=>
Jb .int .add (t 14) (.int .i64 1) λP=>
I_l1 (puts t [(15,B),(16,E),(17,.agg F.toArray),(7,ptr l7 0),(18,t 5),(19,t 0),(20,.agg J.toArray),(21,H),(22,I),(5,I),(23,P),(14,P)]) M O) (
Zc K (t 5) g n)
def Za6 (C:CT) (B E:Value) (g:G) (n:Nat) (K:Cont):Prop:=
Jak E λF=>
Xh0 F (.int .i64 100000) λH=>
Xx E none (some H) none 3 λI=>
Jak I λJ=>
lfp (ZaM C K) (puts (Qi [B,E]) [(4,.slice none 0 0),(5,.slice none 0 0),(8,E),(9,E),(10,F),(11,H),(12,I),(13,J),(14,.int .i64 0)]) g n
theorem ZbQ (C:CT) (j E:Value) (g:G) (n:Nat) (K:Cont):Za6 C j E g n K=Qe Tryz.prog C XU [j,E] g n K:=by kernel_rfl
def Qa1 (C:CT) (K:Cont) (I_l1:Qk) (t:Env) (g:G) (n:Nat):Prop:=
Jb .int .add (t 4) (.int .i64 1) λB=>
I_l1 (puts t [(11,t 4),(12,B),(4,B)]) g n
def Qan (C:CT) (K:Cont) (I_l1:Qk) (I_l2:Qk) (t:Env) (g:G) (n:Nat):Prop:=
Jb .int .leq (t 5) (.int .i64 5) λB=>
Qa B (
Qf [.int .i64 0,.int .i64 0,.int .i64 0] [(0,none,t 5),(1,none,t 4)] λE=>
Qf (reps 1 [.int .i64 0,.int .i64 0,.int .i64 0]) [(0,some 3,.agg E.toArray)] λF=>
Zl F .exact g n λF H I=>
Zs (t 3) (.slice (some ⟨F,0,none⟩) 1 1) 3 24 H I λH I J=>
Jb .int .add (t 5) (.int .i64 1) λM=>
I_l2 (puts t [(13,t 5),(14,B),(17,t 3),(18,t 5),(19,t 4),(20,.agg E.toArray),(21,(.slice (some ⟨F,0,none⟩) 1 1)),(22,H),(3,H),(15,t 5),(16,M),(5,M)]) I J) (
Qa1 C K I_l1 (puts t [(13,t 5),(14,B)]) g n)
def JaY (C:CT) (K:Cont) (I_l5:Qk) (t:Env) (g:G) (n:Nat):Prop:=
Xc (t 1) λB E=>
kLd g B (E+1) λF=>
Jb .int .lss (t 6) F λH=>
Qa H (
Qf [.int .i64 0,.int .i64 0,.int .i64 0] [(0,none,.int .i64 6),(2,none,t 6)] λI=>
Qf [.int .i64 0,.int .i64 0,.int .i64 0] [(0,none,.int .i64 9),(2,none,t 6)] λJ=>
Qf (reps 2 [.int .i64 0,.int .i64 0,.int .i64 0]) [(0,some 3,.agg I.toArray),(3,some 3,.agg J.toArray)] λM=>
Zl M .exact g n λM O P=>
Zs (t 3) (.slice (some ⟨M,0,none⟩) 2 2) 3 24 O P λO P Q=>
Jb .int .add (t 6) (.int .i64 1) λR=>
I_l5 (puts t [(23,t 6),(24,(ptr B (E+1))),(25,F),(26,H),(29,t 3),(30,t 6),(31,.agg I.toArray),(32,t 6),(33,.agg J.toArray),(34,(.slice (some ⟨M,0,none⟩) 2 2)),(35,O),(3,O),(27,t 6),(28,R),(6,R)]) P Q) (
Zc K (t 3) g n)
def Jap (C:CT) (K:Cont) (t:Env) (g:G) (n:Nat):Prop:=
lfp (JaY C K) (puts t [(6,.int .i64 0)]) g n
def Qa2 (C:CT) (K:Cont) (I_l1:Qk) (t:Env) (g:G) (n:Nat):Prop:=
Xc (t 1) λB E=>
kLd g B (E+0) λF=>
Jb .int .lss (t 4) F λH=>
Qa H (
lfp (Qan C K I_l1) (puts t [(7,t 4),(8,(ptr B (E+0))),(9,F),(10,H),(5,.int .i64 1)]) g n) (
Jap C K (puts t [(7,t 4),(8,(ptr B (E+0))),(9,F),(10,H)]) g n)
def Jbk (C:CT) (B:Value) (g:G) (n:Nat) (K:Cont):Prop:=
Jj B λc1=>
Zl c1 .exact g n λl1 E n1=>
lfp (Qa2 C K) (puts (Qi [B]) [(1,ptr l1 0),(2,.slice none 0 0),(3,.slice none 0 0),(4,.int .i64 0)]) E n1
theorem Xcc (C:CT) (j:Value) (g:G) (n:Nat) (K:Cont):Jbk C j g n K=Qe Tryz.prog C Z4 [j] g n K:=by kernel_rfl
def Ja6 (C:CT) (K:Cont) (I_l1:Qk) (t:Env) (g:G) (n:Nat):Prop:=
Jak (t 0) λB=>
Jb .int .lss (t 4) B λE=>
Qa E (
Jd (t 0) (t 4) 5 λF=>
Xc F λH I=>
Ql g H I 5 λH=>
C Qak [.agg H.toArray] g n λI J M=>
Qc I 0 λO=>
Qc I 1 λP=>
Qf (reps 1 [.int .u64 0]) [(0,none,O)] λQ=>
Zl Q .exact J M λJ M Q=>
Zs (t 3) (.slice (some ⟨J,0,none⟩) 1 1) 1 8 M Q λM Q R=>
Jb .int .add (t 4) (.int .i64 1) λT=>
I_l1 (puts t [(7,t 4),(8,t 0),(9,B),(10,E),(14,t 0),(15,t 4),(16,F),(17,.agg H.toArray),(18,I),(13,I),(19,O),(20,P),(5,O),(6,P),(21,t 3),(22,O),(23,(.slice (some ⟨J,0,none⟩) 1 1)),(24,M),(3,M),(11,t 4),(12,T),(4,T)]) Q R) (
Zc K (t 3) g n)
def XbG (C:CT) (B:Value) (g:G) (n:Nat) (K:Cont):Prop:=
lfp (Ja6 C K) (puts (Qi [B]) [(2,.slice none 0 0),(3,.slice none 0 0),(4,.int .i64 0)]) g n
theorem Qcq (C:CT) (j:Value) (g:G) (n:Nat) (K:Cont):XbG C j g n K=Qe Tryz.prog C X9 [j] g n K:=by kernel_rfl
def Xbn (C:CT) (g:G) (n:Nat) (K:Cont):Prop:=
Zl [.int .i64 0,.int .i64 0,.int .i64 0,.int .i64 0,.int .i64 0,.int .i64 0,.int .i64 0] .exact g n λl0 B E=>
Qf [.int .i64 0,.int .i64 0,.int .i64 0,.int .i64 0,.int .i64 0,.int .i64 0,.int .i64 0] [(0,none,.int .i64 2),(1,none,.int .i64 6),(2,none,.int .i64 1),(3,none,.int .i64 1),(4,none,.int .i64 2),(5,none,.int .i64 2),(6,none,.int .i64 2)] λc1=>
Jj (.agg c1.toArray) λF=>
F.length=7∧Qu B l0 0 F λB=>
Ql B l0 0 7 λr0=>
Zc K (.agg r0.toArray) B E
theorem Xb7 (C:CT) (g:G) (n:Nat) (K:Cont):Xbn C g n K=Qe Tryz.prog C Qaq [] g n K:=by kernel_rfl
def Xa1 (C:CT) (B:Value) (g:G) (n:Nat) (K:Cont):Prop:=
Jb .ptr .eql B (.pointer none) λE=>
Qa E (
Zc K (.int .i64 0) g n) (
Xf B λB=>
Xc B λl7 B=>
kLd g l7 (B+3) λB=>
Zc K B g n)
theorem Qby (C:CT) (j:Value) (g:G) (n:Nat) (K:Cont):Xa1 C j g n K=Qe Tryz.prog C Xab [j] g n K:=by kernel_rfl
def JbA (C:CT) (B E F H I:Value) (g:G) (n:Nat) (K:Cont):Prop:=
C Xn [B,E] g n λE J M=>
Jb .ptr .eql E (.pointer none) λO=>
Qa O (
Zc K (.bool false) J M) (
C Jo [B,F] J M λB J M=>
kUn .not B λB=>
Qa B (
Zc K (.bool false) J M) (
Xf E λB=>
Xc B λB O=>
kLd J B (O+0) λB=>
C Zaw [B,F,H,I] J M λB F H=>
Qc B 0 λI=>
Qc B 1 λB=>
C X3 [E,B] F H λB B E=>
Zc K I B E))
theorem Qcr (C:CT) (j I E O J:Value) (g:G) (n:Nat) (K:Cont):JbA C j I E O J g n K=Qe Tryz.prog C Z9 [j,I,E,O,J] g n K:=by kernel_rfl
def Xct (C:CT) (B E:Value) (g:G) (n:Nat) (K:Cont):Prop:=
C Xn [B,E] g n λF H I=>
Jb .ptr .eql F (.pointer none) λJ=>
Qa J (
Zc K (.int .i64 1) H I) (
Xf F λJ=>
Xc J λJ M=>
C Zad [(ptr J (M+1))] H I λH I J=>
Qc H 0 λM=>
Qc H 1 λH=>
Zl [.int .i64 0,.int .i64 0,.bool false,.bool false,.int .u64 0,.int .u64 0,.int .u64 0,.int .u64 0,.int .u64 0,.int .u64 0,.int .u64 0,.int .u64 0] .exact I J λl6 I J=>
Jj M λM=>
M.length=12∧Qu I l6 0 M λI=>
kUn .not H λH=>
Qa H (
Zc K (.int .i64 14) I J) (
Xf B λH=>
Xc H λH M=>
kLd I H (M+8) λH=>
kLd I l6 (0+1) λM=>
Jd H M 15 λH=>
Xc H λH M=>
kLd I H (M+12) λH=>
Jb .int .neq H (.int .i64 0) λH=>
Qa H (
Zc K (.int .i64 15) I J) (
kLd I l6 (0+1) λH=>
C ZaG [B,H] I J λH H I=>
Xf B λJ=>
Xc J λJ M=>
kLd H J (M+8) λO=>
kLd H l6 (0+1) λP=>
Jd O P 15 λO=>
Xc O λP Q=>
Ql H P Q 15 λP=>
Ql H l6 0 12 λQ=>
(C Jck [.agg P.toArray,E,.agg Q.toArray] H I λR T U=>
Qc R 0 λV=>
Qc R 1 λW=>
Qc R 2 λX=>
Zl [.bool false,.bool false,.int .u64 0,.int .u64 0,.int .u64 0,.int .u64 0,.int .u64 0,.int .u64 0,.int .u64 0,.int .u64 0,.int .i64 0,.int .u8 0,.int .i64 0,.int .i64 0,.int .u8 0] .exact T U λY Z j=>
(Xc (ptr J (M+8)) λl _=>Z l=T l)∧(Xc (ptr l6 (0+1)) λl _=>Z l=T l)∧(Xc O λl _=>Z l=T l)∧(Xc (ptr l6 0) λl _=>Z l=T l)∧Jj V λT=>
T.length=15∧Qu Z Y 0 T λT=>
Jb .int .neq X (.int .i64 0) λZ=>
Qa Z (
Zc K X T j) (
Xf F λt=>
Xc t λw AA=>
C Qy [(ptr w (AA+1))] T j λT AB AD=>
Xf B λAE=>
Xc AE λAF AG=>
kLd AB AF (AG+8) λAH=>
kLd AB l6 (0+1) λAI=>
Ql AB Y 0 15 λAJ=>
Jd AH AI 15 λAL=>
Xc AL λAM AN=>
Jj (.agg AJ.toArray) λAO=>
AO.length=15∧Qu AB AM AN AO λAB=>
kLd AB l6 (0+1) λAM=>
C Jp [B,W,AM] AB AD λAB AN AO=>
Zc K (.int .i64 0) AN AO))∧(Zl [.bool false,.bool false,.int .u64 0,.int .u64 0,.int .u64 0,.int .u64 0,.int .u64 0,.int .u64 0,.int .u64 0,.int .u64 0,.int .i64 0,.int .u8 0,.int .i64 0,.int .i64 0,.int .u8 0] .exact H I λY I j=>
(Xc (ptr J (M+8)) λl _=>I l=H l)∧(Xc (ptr l6 (0+1)) λl _=>I l=H l)∧(Xc O λl _=>I l=H l)∧(Xc (ptr l6 0) λl _=>I l=H l)∧C Jck [.agg P.toArray,E,.agg Q.toArray] I j λR E U=>
Qc R 0 λV=>
Qc R 1 λW=>
Qc R 2 λX=>
Jj V λH=>
H.length=15∧Qu E Y 0 H λE=>
Jb .int .neq X (.int .i64 0) λZ=>
Qa Z (
Zc K X E U) (
Xf F λt=>
Xc t λw AA=>
C Qy [(ptr w (AA+1))] E U λT E AD=>
Xf B λAE=>
Xc AE λAF AG=>
kLd E AF (AG+8) λAH=>
kLd E l6 (0+1) λAI=>
Ql E Y 0 15 λAJ=>
Jd AH AI 15 λAL=>
Xc AL λF H=>
Jj (.agg AJ.toArray) λI=>
I.length=15∧Qu E F H I λE=>
kLd E l6 (0+1) λAM=>
C Jp [B,W,AM] E AD λAB B AO=>
Zc K (.int .i64 0) B AO)))))
theorem Qc1 (C:CT) (j E:Value) (g:G) (n:Nat) (K:Cont):Xct C j E g n K=Qe Tryz.prog C Zat [j,E] g n K:=by kernel_rfl
def Qbg (C:CT) (K:Cont) (t:Env) (g:G) (n:Nat):Prop:=
Xc (t 7) λB E=>
Ql g B E 12 λB=>
Xc (t 4) λE F=>
Jj (.agg B.toArray) λB=>
B.length=12∧Qu g E F B λB=>
Xc (t 4) λlr0 or0=>
Ql B lr0 or0 12 λr0=>
Zc K (.tuple #[.agg r0.toArray,t 10]) B n
def Qbj (C:CT) (K:Cont) (I_l1:Qk) (t:Env) (g:G) (n:Nat):Prop:=
Jb .int .lss (t 40) (t 39) λB=>
Qa B (
Jd (t 38) (t 40) 12 λE=>
Xc E λF H=>
Ql g F H 12 λF=>
Zl [.int .i64 0,.int .i64 0,.bool false,.bool false,.int .u64 0,.int .u64 0,.int .u64 0,.int .u64 0,.int .u64 0,.int .u64 0,.int .u64 0,.int .u64 0] .exact g n λH I J=>
Jj (.agg F.toArray) λM=>
M.length=12∧Qu I H 0 M λI=>
Xf (t 6) λM=>
Xc M λO P=>
Ql I H 0 12 λQ=>
C Qs [(ptr O (P+2)),.agg Q.toArray] I J λI J R=>
Jb .int .add (t 40) (.int .i64 1) λT=>
I_l1 (puts t [(41,B),(42,E),(43,.agg F.toArray),(12,ptr H 0),(44,t 6),(45,M),(46,(ptr O (P+2))),(47,.agg Q.toArray),(48,I),(49,T),(40,T)]) J R) (
Qbg C K (puts t [(41,B)]) g n)
def QbX (C:CT) (B E:Value) (g:G) (n:Nat) (K:Cont):Prop:=
Zl [.int .i64 0,.int .i64 0,.bool false,.bool false,.int .u64 0,.int .u64 0,.int .u64 0,.int .u64 0,.int .u64 0,.int .u64 0,.int .u64 0,.int .u64 0] .exact g n λl4 F H=>
C Xn [B,E] F H λF H I=>
Jb .ptr .eql F (.pointer none) λJ=>
Qa J (
Qf [.int .i64 0,.int .i64 0,.bool false,.bool false,.int .u64 0,.int .u64 0,.int .u64 0,.int .u64 0,.int .u64 0,.int .u64 0,.int .u64 0,.int .u64 0] [] λM=>
Jj (.agg M.toArray) λM=>
M.length=12∧Qu H l4 0 M λM=>
Ql M l4 0 12 λr0=>
Zc K (.tuple #[.agg r0.toArray,.int .i64 1]) M I) (
Xf F λM=>
Xc M λO P=>
C Qy [(ptr O (P+3))] H I λH I Q=>
Qc H 0 λR=>
Qc H 1 λT=>
Zl [.int .i64 0,.int .i64 0,.bool false,.bool false,.int .u64 0,.int .u64 0,.int .u64 0,.int .u64 0,.int .u64 0,.int .u64 0,.int .u64 0,.int .u64 0] .exact I Q λl7 I Q=>
Jj R λU=>
U.length=12∧Qu I l7 0 U λI=>
kUn .not T λU=>
Qa U (
Qf [.int .i64 0,.int .i64 0,.bool false,.bool false,.int .u64 0,.int .u64 0,.int .u64 0,.int .u64 0,.int .u64 0,.int .u64 0,.int .u64 0,.int .u64 0] [] λV=>
Jj (.agg V.toArray) λV=>
V.length=12∧Qu I l4 0 V λV=>
Ql V l4 0 12 λr0=>
Zc K (.tuple #[.agg r0.toArray,.int .i64 14]) V Q) (
Xf F λV=>
Xc V λW X=>
kLd I W (X+0) λY=>
Ql I l7 0 12 λZ=>
C ZaE [Y,.agg Z.toArray] I Q λI Q j=>
Qc I 0 λt=>
Qc I 1 λw=>
Jak t λAA=>
lfp (Qbj C K) (puts (Qi [B,E]) [(4,ptr l4 0),(5,.int .i64 0),(13,B),(14,E),(15,F),(6,F),(16,F),(17,J),(20,F),(21,M),(22,(ptr O (P+3))),(23,H),(19,H),(24,R),(25,T),(7,ptr l7 0),(8,T),(26,T),(27,U),(30,F),(31,V),(32,(ptr W (X+0))),(33,Y),(34,.agg Z.toArray),(35,I),(29,I),(36,t),(37,w),(9,t),(10,w),(38,t),(39,AA),(40,.int .i64 0)]) Q j))
theorem XcI (C:CT) (j E:Value) (g:G) (n:Nat) (K:Cont):QbX C j E g n K=Qe Tryz.prog C QZ [j,E] g n K:=by kernel_rfl
def Xbp (C:CT) (B E:Value) (g:G) (n:Nat) (K:Cont):Prop:=
C Xn [B,E] g n λF H I=>
Jb .ptr .eql F (.pointer none) λJ=>
Qa J (
Zc K (.int .i64 1) H I) (
Xf F λF=>
Xc F λF J=>
C Qy [(ptr F (J+2))] H I λF H I=>
Qc F 0 λJ=>
Qc F 1 λF=>
Zl [.int .i64 0,.int .i64 0,.bool false,.bool false,.int .u64 0,.int .u64 0,.int .u64 0,.int .u64 0,.int .u64 0,.int .u64 0,.int .u64 0,.int .u64 0] .exact H I λl6 H I=>
Jj J λJ=>
J.length=12∧Qu H l6 0 J λH=>
kUn .not F λF=>
Qa F (
Zc K (.int .i64 14) H I) (
Xf B λF=>
Xc F λF J=>
kLd H F (J+8) λM=>
kLd H l6 (0+1) λO=>
Jd M O 15 λM=>
Xc M λO P=>
Ql H O P 15 λO=>
Ql H l6 0 12 λP=>
(C Xba [.agg O.toArray,E,.agg P.toArray] H I λQ R T=>
Qc Q 0 λU=>
Qc Q 1 λV=>
Qc Q 2 λW=>
Zl [.bool false,.bool false,.int .u64 0,.int .u64 0,.int .u64 0,.int .u64 0,.int .u64 0,.int .u64 0,.int .u64 0,.int .u64 0,.int .i64 0,.int .u8 0,.int .i64 0,.int .i64 0,.int .u8 0] .exact R T λX Y Z=>
(Xc (ptr F (J+8)) λl _=>Y l=R l)∧(Xc (ptr l6 (0+1)) λl _=>Y l=R l)∧(Xc M λl _=>Y l=R l)∧(Xc (ptr l6 0) λl _=>Y l=R l)∧Jj U λR=>
R.length=15∧Qu Y X 0 R λR=>
Jb .int .neq W (.int .i64 0) λY=>
Qa Y (
Zc K W R Z) (
Xf B λj=>
Xc j λt w=>
kLd R t (w+8) λAA=>
kLd R l6 (0+1) λAB=>
Ql R X 0 15 λAD=>
Jd AA AB 15 λAE=>
Xc AE λAF AG=>
Jj (.agg AD.toArray) λAH=>
AH.length=15∧Qu R AF AG AH λR=>
kLd R l6 (0+1) λAF=>
C Jp [B,V,AF] R Z λR AG AH=>
Zc K (.int .i64 0) AG AH))∧(Zl [.bool false,.bool false,.int .u64 0,.int .u64 0,.int .u64 0,.int .u64 0,.int .u64 0,.int .u64 0,.int .u64 0,.int .u64 0,.int .i64 0,.int .u8 0,.int .i64 0,.int .i64 0,.int .u8 0] .exact H I λX I Z=>
(Xc (ptr F (J+8)) λl _=>I l=H l)∧(Xc (ptr l6 (0+1)) λl _=>I l=H l)∧(Xc M λl _=>I l=H l)∧(Xc (ptr l6 0) λl _=>I l=H l)∧C Xba [.agg O.toArray,E,.agg P.toArray] I Z λQ E T=>
Qc Q 0 λU=>
Qc Q 1 λV=>
Qc Q 2 λW=>
Jj U λF=>
F.length=15∧Qu E X 0 F λE=>
Jb .int .neq W (.int .i64 0) λY=>
Qa Y (
Zc K W E T) (
Xf B λj=>
Xc j λt w=>
kLd E t (w+8) λAA=>
kLd E l6 (0+1) λAB=>
Ql E X 0 15 λAD=>
Jd AA AB 15 λAE=>
Xc AE λF H=>
Jj (.agg AD.toArray) λI=>
I.length=15∧Qu E F H I λE=>
kLd E l6 (0+1) λAF=>
C Jp [B,V,AF] E T λR B AH=>
Zc K (.int .i64 0) B AH))))
theorem Jcb (C:CT) (j E:Value) (g:G) (n:Nat) (K:Cont):Xbp C j E g n K=Qe Tryz.prog C Q6 [j,E] g n K:=by kernel_rfl
def Jbn (C:CT) (B:Value) (g:G) (n:Nat) (K:Cont):Prop:=
Zl [.int .i64 0,.int .i64 0,.int .i64 0,.int .i64 0,.int .i64 0,.int .i64 0,.int .i64 0] .exact g n λl2 E n2=>
Jb .ptr .eql B (.pointer none) λF=>
Qa F (
Qf [.int .i64 0,.int .i64 0,.int .i64 0,.int .i64 0,.int .i64 0,.int .i64 0,.int .i64 0] [] λc5=>
Jj (.agg c5.toArray) λF=>
F.length=7∧Qu E l2 0 F λF=>
Ql F l2 0 7 λr0=>
Zc K (.agg r0.toArray) F n2) (
Xf B λB=>
Xc B λB F=>
Ql E B (F+0) 7 λB=>
Jj (.agg B.toArray) λB=>
B.length=7∧Qu E l2 0 B λB=>
Ql B l2 0 7 λr0=>
Zc K (.agg r0.toArray) B n2)
theorem Xci (C:CT) (j:Value) (g:G) (n:Nat) (K:Cont):Jbn C j g n K=Qe Tryz.prog C QK [j] g n K:=by kernel_rfl
def QeV (C:CT) (B:Value) (g:G) (n:Nat) (K:Cont):Prop:=
Jj B λc1=>
Zl c1 .exact g n λl1 B n1=>
kLd B l1 (0+3) λE=>
Jb .int .eql E (.int .i64 1) λE=>
Qa E (
kLd B l1 (0+0) λE=>
C Zg [E,.int .i64 1,.int .i64 8] B n1 λF H I=>
Qa F (
kLd H l1 (0+1) λJ=>
C Zg [J,.int .i64 2,.int .i64 64] H I λM O P=>
Qa M (
kLd O l1 (0+2) λQ=>
kLd O l1 (0+1) λR=>
Jb .int .sub R (.int .i64 1) λT=>
C Zg [Q,.int .i64 1,T] O P λU V W=>
Qa U (
kLd V l1 (0+4) λX=>
C Zg [X,.int .i64 1,.int .i64 8] V W λY Z j=>
Qa Y (
kLd Z l1 (0+5) λt=>
C Zg [t,.int .i64 1,.int .i64 16] Z j λw AA AB=>
Qa w (
kLd AA l1 (0+6) λAD=>
C Zg [AD,.int .i64 1,.int .i64 16] AA AB λAE AF AG=>
Zc K AE AF AG) (
Zc K (.bool false) AA AB)) (
Zc K (.bool false) Z j)) (
Zc K (.bool false) V W)) (
Zc K (.bool false) O P)) (
Zc K (.bool false) H I)) (
kLd B l1 (0+3) λH=>
Jb .int .eql H (.int .i64 2) λH=>
Qa H (
kLd B l1 (0+0) λE=>
C Zg [E,.int .i64 1,.int .i64 8] B n1 λF H I=>
Qa F (
kLd H l1 (0+1) λJ=>
C Zg [J,.int .i64 2,.int .i64 64] H I λM O P=>
Qa M (
kLd O l1 (0+2) λQ=>
kLd O l1 (0+1) λR=>
Jb .int .sub R (.int .i64 1) λT=>
C Zg [Q,.int .i64 1,T] O P λU V W=>
Qa U (
kLd V l1 (0+4) λX=>
C Zg [X,.int .i64 1,.int .i64 8] V W λY Z j=>
Qa Y (
kLd Z l1 (0+5) λt=>
C Zg [t,.int .i64 1,.int .i64 16] Z j λw AA AB=>
Qa w (
kLd AA l1 (0+6) λAD=>
C Zg [AD,.int .i64 1,.int .i64 16] AA AB λAE AF AG=>
Zc K AE AF AG) (
Zc K (.bool false) AA AB)) (
Zc K (.bool false) Z j)) (
Zc K (.bool false) V W)) (
Zc K (.bool false) O P)) (
Zc K (.bool false) H I)) (
kLd B l1 (0+3) λH=>
Jb .int .eql H (.int .i64 4) λH=>
Qa H (
kLd B l1 (0+0) λE=>
C Zg [E,.int .i64 1,.int .i64 8] B n1 λF H I=>
Qa F (
kLd H l1 (0+1) λJ=>
C Zg [J,.int .i64 2,.int .i64 64] H I λM O P=>
Qa M (
kLd O l1 (0+2) λQ=>
kLd O l1 (0+1) λR=>
Jb .int .sub R (.int .i64 1) λT=>
C Zg [Q,.int .i64 1,T] O P λU V W=>
Qa U (
kLd V l1 (0+4) λX=>
C Zg [X,.int .i64 1,.int .i64 8] V W λY Z j=>
Qa Y (
kLd Z l1 (0+5) λt=>
C Zg [t,.int .i64 1,.int .i64 16] Z j λw AA AB=>
Qa w (
kLd AA l1 (0+6) λAD=>
C Zg [AD,.int .i64 1,.int .i64 16] AA AB λAE AF AG=>
Zc K AE AF AG) (
Zc K (.bool false) AA AB)) (
Zc K (.bool false) Z j)) (
Zc K (.bool false) V W)) (
Zc K (.bool false) O P)) (
Zc K (.bool false) H I)) (
kLd B l1 (0+3) λH=>
Jb .int .eql H (.int .i64 8) λH=>
kLd B l1 (0+0) λE=>
C Zg [E,.int .i64 1,.int .i64 8] B n1 λF B I=>
Qa F (
kLd B l1 (0+1) λJ=>
C Zg [J,.int .i64 2,.int .i64 64] B I λM E P=>
Qa M (
kLd E l1 (0+2) λQ=>
kLd E l1 (0+1) λR=>
Jb .int .sub R (.int .i64 1) λT=>
C Zg [Q,.int .i64 1,T] E P λU F W=>
Qa U (
Qa H (
kLd F l1 (0+4) λX=>
C Zg [X,.int .i64 1,.int .i64 8] F W λY H j=>
Qa Y (
kLd H l1 (0+5) λt=>
C Zg [t,.int .i64 1,.int .i64 16] H j λw J AB=>
Qa w (
kLd J l1 (0+6) λAD=>
C Zg [AD,.int .i64 1,.int .i64 16] J AB λAE M AG=>
Zc K AE M AG) (
Zc K (.bool false) J AB)) (
Zc K (.bool false) H j)) (
Zc K (.bool false) F W)) (
Zc K (.bool false) F W)) (
Zc K (.bool false) E P)) (
Zc K (.bool false) B I))))
theorem QeI (C:CT) (j:Value) (g:G) (n:Nat) (K:Cont):QeV C j g n K=Qe Tryz.prog C Jch [j] g n K:=by kernel_rfl
def Qgy (C:CT) (B E:Value) (g:G) (n:Nat) (K:Cont):Prop:=
Jb .int .lss B (.int .i64 2) λF=>
Qa F (
Zc K (.tuple #[.pointer none,.int .i64 1]) g n) (
Jb .int .gtr B (.int .i64 64) λF=>
Qa F (
Zc K (.tuple #[.pointer none,.int .i64 1]) g n) (
Jb .int .lss E (.int .i64 1) λF=>
Qa F (
Zc K (.tuple #[.pointer none,.int .i64 1]) g n) (
Jb .int .sub B (.int .i64 1) λF=>
Jb .int .gtr E F λF=>
Qa F (
Zc K (.tuple #[.pointer none,.int .i64 1]) g n) (
Zcr B B [.int .u64 0,.int .u64 0,.int .u64 0,.int .u64 0,.int .u64 0,.int .u64 0,.int .u64 0,.int .u64 0] 64 g n λB F H=>
Qf [.slice none 0 0,.int .i64 0,.int .i64 0,.int .i64 0] [(0,none,B),(1,none,E)] λB=>
Jj (.agg B.toArray) λB=>
Zl B .exact F H λB E F=>
Zc K (.tuple #[ptr B 0,.int .i64 0]) E F))))
theorem XfJ (C:CT) (j E:Value) (g:G) (n:Nat) (K:Cont):Qgy C j E g n K=Qe Tryz.prog C JbD [j,E] g n K:=by kernel_rfl
def Zbm (C:CT) (B E:Value) (g:G) (n:Nat) (K:Cont):Prop:=
Jb .ptr .eql B (.pointer none) λF=>
Qa F (
Zc K (.int .i64 1) g n) (
Jak E λF=>
Xf B λH=>
Xc H λH I=>
kLd g H (I+0) λH=>
Jak H λH=>
Jb .int .neq F H λF=>
Qa F (
Zc K (.int .i64 1) g n) (
Xf B λB=>
Xc B λB F=>
kLd g B (F+0) λB=>
Jcg B E 8 g λB B=>
Zc K (.int .i64 0) B n))
theorem Xcj (C:CT) (j E:Value) (g:G) (n:Nat) (K:Cont):Zbm C j E g n K=Qe Tryz.prog C Q7 [j,E] g n K:=by kernel_rfl
def Zb8 (C:CT) (B:Value) (g:G) (n:Nat) (K:Cont):Prop:=
Jb .ptr .neq B (.pointer none) λE=>
Qa E (
Xf B λE=>
Xc E λl6 E=>
kLd g l6 (E+0) λE=>
Xf B λB=>
Xc B λB F=>
kLd g B (F+1) λB=>
Xx E none (some B) none 8 λB=>
Xaz B [.int .u64 0,.int .u64 0,.int .u64 0,.int .u64 0,.int .u64 0,.int .u64 0,.int .u64 0,.int .u64 0] g λv_ B=>
Zc K (.tuple #[]) B n) (
Zc K (.tuple #[]) g n)
theorem JcP (C:CT) (j:Value) (g:G) (n:Nat) (K:Cont):Zb8 C j g n K=Qe Tryz.prog C ZF [j] g n K:=by kernel_rfl
def Zgb (C:CT) (B E:Value) (g:G) (n:Nat) (K:Cont):Prop:=
Jb .ptr .eql B (.pointer none) λF=>
Qa F (
Zc K (.tuple #[.pointer none,.int .i64 1]) g n) (
Jb .int .lss E (.int .i64 1) λF=>
Qa F (
Zc K (.tuple #[.pointer none,.int .i64 1]) g n) (
Jb .int .gtr E (.int .i64 16) λF=>
Qa F (
Zc K (.tuple #[.pointer none,.int .i64 1]) g n) (
Qf [.pointer none,.int .i64 0,.slice none 0 0] [(0,none,B),(1,none,E)] λB=>
Jj (.agg B.toArray) λB=>
Zl B .exact g n λB E F=>
Zc K (.tuple #[ptr B 0,.int .i64 0]) E F)))
theorem Zf7 (C:CT) (j E:Value) (g:G) (n:Nat) (K:Cont):Zgb C j E g n K=Qe Tryz.prog C Zda [j,E] g n K:=by kernel_rfl
def Ja7 (C:CT) (K:Cont) (I_l3:Qk) (t:Env) (g:G) (n:Nat):Prop:=
Jb .int .lss (t 57) (t 56) λB=>
Qa B (
Xf (t 0) λE=>
Xc E λF H=>
kLd g F (H+8) λI=>
C Zbr [] g n λJ M O=>
(Xc (ptr F (H+8)) λl _=>M l=g l)∧Jd I (t 57) 15 λP=>
Xc P λQ R=>
Jj J λT=>
T.length=15∧Qu M Q R T λM=>
Jb .int .add (t 57) (.int .i64 1) λQ=>
I_l3 (puts t [(58,B),(59,t 57),(3,t 57),(60,t 0),(61,E),(62,(ptr F (H+8))),(63,I),(64,t 57),(65,J),(66,P),(67,Q),(57,Q)]) M O) (
Zc K (.tuple #[]) g n)
def Jax (C:CT) (K:Cont) (t:Env) (g:G) (n:Nat):Prop:=
Xf (t 0) λB=>
Xc B λE F=>
kLd g E (F+0+1) λH=>
Zcr H H [.bool false,.bool false,.int .u64 0,.int .u64 0,.int .u64 0,.int .u64 0,.int .u64 0,.int .u64 0,.int .u64 0,.int .u64 0,.int .i64 0,.int .u8 0,.int .i64 0,.int .i64 0,.int .u8 0] 112 g n λI J M=>
Xf (t 0) λO=>
Xc O λP Q=>
kSt J P (Q+8) I λJ=>
Xf (t 0) λR=>
Xc R λT U=>
kLd J T (U+8) λV=>
Jak V λW=>
lfp (Ja7 C K) (puts t [(43,t 0),(44,t 0),(45,B),(46,(ptr E (F+0))),(47,(ptr E (F+0+1))),(48,H),(49,I),(50,O),(51,(ptr P (Q+8))),(52,t 0),(53,R),(54,(ptr T (U+8))),(55,V),(56,W),(57,.int .i64 0)]) J M
def Za8 (C:CT) (K:Cont) (I_l1:Qk) (t:Env) (g:G) (n:Nat):Prop:=
Jb .int .lss (t 18) (t 17) λB=>
Qa B (
Xf (t 0) λE=>
Xc E λF H=>
kLd g F (H+7) λI=>
Xf (t 0) λJ=>
Xc J λM O=>
kLd g M (O+0+3) λP=>
Xf (t 0) λQ=>
Xc Q λR T=>
kLd g R (T+0+4) λU=>
C Qcd [P,U] g n λV W X=>
(Xc (ptr F (H+7)) λl _=>W l=g l)∧Qc V 0 λY=>
Qc V 1 λZ=>
Jd I (t 18) 4 λj=>
Xc j λw AA=>
kSt W w (AA+0) Y λW=>
Jb .int .add (t 18) (.int .i64 1) λAB=>
I_l1 (puts t [(19,B),(20,t 18),(2,t 18),(22,t 0),(23,E),(24,(ptr F (H+7))),(25,I),(26,t 18),(27,t 0),(28,J),(29,(ptr M (O+0))),(30,(ptr M (O+0+3))),(31,P),(32,t 0),(33,Q),(34,(ptr R (T+0))),(35,(ptr R (T+0+4))),(36,U),(37,V),(21,V),(38,Y),(39,Z),(40,j),(41,(ptr w (AA+0))),(42,AB),(18,AB)]) W X) (
Jax C K (puts t [(19,B)]) g n)
def ZbF (C:CT) (B:Value) (g:G) (n:Nat) (K:Cont):Prop:=
Xf B λE=>
Xc E λl7 F=>
kLd g l7 (F+0+0) λH=>
Zcr H H [.pointer none,.slice none 0 0,.slice none 0 0,.slice none 0 0] 80 g n λI J M=>
Xf B λO=>
Xc O λP Q=>
kSt J P (Q+7) I λJ=>
Xf B λR=>
Xc R λT U=>
kLd J T (U+7) λV=>
Jak V λW=>
lfp (Za8 C K) (puts (Qi [B]) [(4,B),(5,B),(6,E),(7,(ptr l7 (F+0))),(8,(ptr l7 (F+0+0))),(9,H),(10,I),(11,O),(12,(ptr P (Q+7))),(13,B),(14,R),(15,(ptr T (U+7))),(16,V),(17,W),(18,.int .i64 0)]) J M
theorem Qcs (C:CT) (j:Value) (g:G) (n:Nat) (K:Cont):ZbF C j g n K=Qe Tryz.prog C Z8 [j] g n K:=by kernel_rfl
def Xcu (C:CT) (B E:Value) (g:G) (n:Nat) (K:Cont):Prop:=
Jb .ptr .eql B (.pointer none) λF=>
Qa F (
Zc K (.pointer none) g n) (
Jb .int .lss E (.int .i64 0) λF=>
Qa F (
Zc K (.pointer none) g n) (
Xf B λF=>
Xc F λF H=>
kLd g F (H+7) λF=>
Jak F λF=>
Jb .int .geq E F λF=>
Qa F (
Zc K (.pointer none) g n) (
Xf B λF=>
Xc F λF H=>
C ZD [(ptr F (H+10)),.int .i64 1] g n λF F H=>
Xf B λB=>
Xc B λB I=>
kLd F B (I+7) λB=>
Jd B E 4 λB=>
Zc K B F H)))
theorem Qc3 (C:CT) (j E:Value) (g:G) (n:Nat) (K:Cont):Xcu C j E g n K=Qe Tryz.prog C Xn [j,E] g n K:=by kernel_rfl
def ZbU (C:CT) (B E:Value) (g:G) (n:Nat) (K:Cont):Prop:=
Jb .ptr .neq B (.pointer none) λF=>
Qa F (
Jb .int .geq E (.int .i64 0) λF=>
Qa F (
Xf B λB=>
Xc B λB F=>
kLd g B (F+8) λB=>
Jak B λB=>
Jb .int .lss E B λB=>
Zc K B g n) (
Zc K (.bool false) g n)) (
Zc K (.bool false) g n)
theorem XcB (C:CT) (j E:Value) (g:G) (n:Nat) (K:Cont):ZbU C j E g n K=Qe Tryz.prog C Jo [j,E] g n K:=by kernel_rfl
def JaD (C:CT) (K:Cont) (t:Env) (g:G) (n:Nat):Prop:=
Qf [.int .u64 0,.int .u64 0,.int .u64 0,.int .u64 0,.int .u64 0,.int .u64 0,.int .u64 0,.int .u64 0] [] λB=>
C X6 [t 0,t 1,.int .i64 4,.int .i64 1,.agg B.toArray] g n λB E F=>
Zc K (.tuple #[.int .u64 0,.bool false,B]) E F
def ZJ (C:CT) (K:Cont) (t:Env) (g:G) (n:Nat):Prop:=
Qa (t 23) (
Xf (t 0) λB=>
Xc B λB E=>
kLd g B (E+0) λB=>
C Jav [B,t 1] g n λB B E=>
Xc (t 9) λF H=>
Ji (ptr F (H+2)) (t 2) 8 1 λF=>
Xc F λF H=>
kLd B F H λF=>
Zc K (.tuple #[F,.bool true,.slice none 0 0]) B E) (
JaD C K t g n)
def JbT (C:CT) (B E F:Value) (g:G) (n:Nat) (K:Cont):Prop:=
Jb .ptr .eql B (.pointer none) λH=>
Qa H (
Zc K (.tuple #[.int .u64 0,.bool false,.slice none 0 0]) g n) (
C Jbc [E,F] g n λI J M=>
kUn .not I λO=>
Qa O (
Zc K (.tuple #[.int .u64 0,.bool false,.slice none 0 0]) J M) (
C Qr [B,E] J M λJ M P=>
Zl [.int .i64 0,.int .i64 0,.int .u64 0,.int .u64 0,.int .u64 0,.int .u64 0,.int .u64 0,.int .u64 0,.int .u64 0,.int .u64 0,.int .i64 0] .exact M P λM P Q=>
Jj J λR=>
R.length=11∧Qu P M 0 R λP=>
kLd P M (0+0) λR=>
Jb .int .eql R (.int .i64 1) λT=>
Qa T (
ZJ C K (puts (Qi [B,E,F]) [(6,.int .u64 0),(7,.bool false),(8,.slice none 0 0),(10,B),(11,H),(12,.bool false),(13,E),(14,F),(15,I),(16,O),(17,O),(18,B),(19,E),(20,J),(9,ptr M 0),(21,(ptr M (0+0))),(22,R),(24,T),(23,T)]) P Q) (
Jb .int .eql R (.int .i64 2) λU=>
Qa U (
ZJ C K (puts (Qi [B,E,F]) [(6,.int .u64 0),(7,.bool false),(8,.slice none 0 0),(10,B),(11,H),(12,.bool false),(13,E),(14,F),(15,I),(16,O),(17,O),(18,B),(19,E),(20,J),(9,ptr M 0),(21,(ptr M (0+0))),(22,R),(24,T),(23,T),(25,U),(23,U)]) P Q) (
Jb .int .eql R (.int .i64 3) λV=>
Qa V (
ZJ C K (puts (Qi [B,E,F]) [(6,.int .u64 0),(7,.bool false),(8,.slice none 0 0),(10,B),(11,H),(12,.bool false),(13,E),(14,F),(15,I),(16,O),(17,O),(18,B),(19,E),(20,J),(9,ptr M 0),(21,(ptr M (0+0))),(22,R),(24,T),(23,T),(25,U),(23,U),(26,V),(23,V)]) P Q) (
Jb .int .eql R (.int .i64 6) λW=>
ZJ C K (puts (Qi [B,E,F]) [(6,.int .u64 0),(7,.bool false),(8,.slice none 0 0),(10,B),(11,H),(12,.bool false),(13,E),(14,F),(15,I),(16,O),(17,O),(18,B),(19,E),(20,J),(9,ptr M 0),(21,(ptr M (0+0))),(22,R),(24,T),(23,T),(25,U),(23,U),(26,V),(23,V),(27,W),(23,W)]) P Q)))))
theorem ZcH (C:CT) (j I E:Value) (g:G) (n:Nat) (K:Cont):JbT C j I E g n K=Qe Tryz.prog C JaG [j,I,E] g n K:=by kernel_rfl
def JbW (C:CT) (K:Cont) (I_l1:Qk) (t:Env) (g:G) (n:Nat):Prop:=
Jb .int .lss (t 8) (t 7) λB=>
Qa B (
Jd (t 6) (t 8) 12 λE=>
Xc E λF H=>
Ql g F H 12 λF=>
Zl [.int .i64 0,.int .i64 0,.bool false,.bool false,.int .u64 0,.int .u64 0,.int .u64 0,.int .u64 0,.int .u64 0,.int .u64 0,.int .u64 0,.int .u64 0] .exact g n λl5 H n5=>
Jj (.agg F.toArray) λI=>
I.length=12∧Qu H l5 0 I λH=>
Xf (t 0) λI=>
Xc I λJ M=>
Ql H l5 0 12 λO=>
C Qs [(ptr J (M+1)),.agg O.toArray] H n5 λH P Q=>
Jb .int .add (t 8) (.int .i64 1) λR=>
I_l1 (puts t [(9,B),(10,E),(11,.agg F.toArray),(5,ptr l5 0),(12,t 0),(13,I),(14,(ptr J (M+1))),(15,.agg O.toArray),(16,H),(17,R),(8,R)]) P Q) (
Zc K (.tuple #[]) g n)
def QcX (C:CT) (B E:Value) (g:G) (n:Nat) (K:Cont):Prop:=
Jak E λF=>
lfp (JbW C K) (puts (Qi [B,E]) [(6,E),(7,F),(8,.int .i64 0)]) g n
theorem Zdi (C:CT) (j E:Value) (g:G) (n:Nat) (K:Cont):QcX C j E g n K=Qe Tryz.prog C X3 [j,E] g n K:=by kernel_rfl
def ZbY (C:CT) (B E:Value) (g:G) (n:Nat) (K:Cont):Prop:=
C Jo [B,E] g n λF H I=>
kUn .not F λF=>
Qa F (
Zc K (.int .i64 1) H I) (
Xf B λF=>
Xc F λF J=>
kLd H F (J+8) λF=>
Jd F E 15 λF=>
Xc F λF J=>
Ql H F J 15 λF=>
C Qbl [.agg F.toArray] H I λF H I=>
kUn .not F λF=>
Qa F (
Zc K (.int .i64 16) H I) (
C J7 [B,E] H I λF H I=>
Jb .int .neq F (.int .i64 0) λJ=>
Qa J (
Zc K F H I) (
Xf B λF=>
Xc F λF J=>
kLd H F (J+8) λF=>
Jd F E 15 λF=>
Xc F λF J=>
Ql H F J 15 λF=>
C XbN [.agg F.toArray] H I λF H I=>
Qc F 0 λJ=>
Qc F 1 λM=>
Qc F 2 λF=>
Zl [.bool false,.bool false,.int .u64 0,.int .u64 0,.int .u64 0,.int .u64 0,.int .u64 0,.int .u64 0,.int .u64 0,.int .u64 0,.int .i64 0,.int .u8 0,.int .i64 0,.int .i64 0,.int .u8 0] .exact H I λl6 H I=>
Jj J λJ=>
J.length=15∧Qu H l6 0 J λH=>
Jb .int .neq F (.int .i64 0) λJ=>
Qa J (
Zc K F H I) (
Xf B λF=>
Xc F λF J=>
kLd H F (J+8) λF=>
Ql H l6 0 15 λJ=>
Jd F E 15 λF=>
Xc F λF O=>
Jj (.agg J.toArray) λJ=>
J.length=15∧Qu H F O J λF=>
C Jp [B,M,E] F I λB B E=>
Zc K (.int .i64 0) B E))))
theorem JcI (C:CT) (j E:Value) (g:G) (n:Nat) (K:Cont):ZbY C j E g n K=Qe Tryz.prog C Xah [j,E] g n K:=by kernel_rfl
def ZbD (C:CT) (B E:Value) (g:G) (n:Nat) (K:Cont):Prop:=
C Jo [B,E] g n λF H I=>
kUn .not F λF=>
Qa F (
Zc K (.int .i64 1) H I) (
Xf B λB=>
Xc B λB F=>
kLd H B (F+9) λB=>
C Zt [B,E] H I λB E F=>
Zc K B E F)
theorem Qcp (C:CT) (j E:Value) (g:G) (n:Nat) (K:Cont):ZbD C j E g n K=Qe Tryz.prog C X8 [j,E] g n K:=by kernel_rfl
def Xcx (C:CT) (B E:Value) (g:G) (n:Nat) (K:Cont):Prop:=
Jj E λc3=>
Zl c3 .exact g n λl3 E n3=>
Jb .ptr .eql B (.pointer none) λF=>
Qa F (
Zc K (.int .i64 1) E n3) (
Ql E l3 0 12 λF=>
C ZaT [.agg F.toArray] E n3 λE F H=>
kUn .not E λE=>
Qa E (
Zc K (.int .i64 11) F H) (
Xf B λE=>
Xc E λE I=>
kLd F E (I+0) λE=>
Jak E λE=>
Jb .int .geq E (.int .i64 1000) λE=>
Qa E (
Zc K (.int .i64 13) F H) (
Xf B λE=>
Xc E λE I=>
kLd F E (I+0) λJ=>
Ql F l3 0 12 λM=>
Qf (reps 1 [.int .i64 0,.int .i64 0,.bool false,.bool false,.int .u64 0,.int .u64 0,.int .u64 0,.int .u64 0,.int .u64 0,.int .u64 0,.int .u64 0,.int .u64 0]) [(0,some 12,.agg M.toArray)] λM=>
Zl M .exact F H λH M O=>
(Xc (ptr E (I+0)) λl _=>M l=F l)∧Zs J (.slice (some ⟨H,0,none⟩) 1 1) 12 88 M O λE F H=>
Xf B λB=>
Xc B λB I=>
kSt F B (I+0) E λB=>
Zc K (.int .i64 0) B H)))
theorem Xc4 (C:CT) (j E:Value) (g:G) (n:Nat) (K:Cont):Xcx C j E g n K=Qe Tryz.prog C Qs [j,E] g n K:=by kernel_rfl
def Qbp (C:CT) (K:Cont) (I_l1:Qk) (t:Env) (g:G) (n:Nat):Prop:=
Jb .int .lss (t 18) (t 17) λB=>
Qa B (
Jd (t 16) (t 18) 9 λE=>
Xc E λF H=>
Ql g F H 9 λF=>
Zl [.int .i64 0,.int .u64 0,.int .u64 0,.int .u64 0,.int .u64 0,.int .u64 0,.int .u64 0,.int .u64 0,.int .u64 0] .exact g n λl5 H n5=>
Jj (.agg F.toArray) λI=>
I.length=9∧Qu H l5 0 I λH=>
kLd H l5 (0+0) λI=>
Ql H l5 (0+1) 8 λJ=>
Jd (t 3) I 8 λM=>
Xc M λO P=>
Jj (.agg J.toArray) λQ=>
Q.length=8∧Qu H O P Q λH=>
Jb .int .add (t 18) (.int .i64 1) λO=>
I_l1 (puts t [(19,B),(20,E),(21,.agg F.toArray),(5,ptr l5 0),(22,t 3),(23,(ptr l5 (0+0))),(24,I),(25,(ptr l5 (0+1))),(26,.agg J.toArray),(27,M),(28,O),(18,O)]) H n5) (
Zc K (t 3) g n)
def Zb9 (C:CT) (B:Value) (g:G) (n:Nat) (K:Cont):Prop:=
Jb .ptr .eql B (.pointer none) λE=>
Qa E (
Zc K (.slice none 0 0) g n) (
Xf B λF=>
Xc F λH I=>
kLd g H (I+0) λJ=>
C XaH [J] g n λM O P=>
Xf B λQ=>
Xc Q λR T=>
kLd O R (T+2) λU=>
Jak U λV=>
lfp (Qbp C K) (puts (Qi [B]) [(2,.slice none 0 0),(6,B),(7,E),(8,B),(9,F),(10,(ptr H (I+0))),(11,J),(12,M),(3,M),(13,B),(14,Q),(15,(ptr R (T+2))),(16,U),(17,V),(18,.int .i64 0)]) O P)
theorem JcJ (C:CT) (j:Value) (g:G) (n:Nat) (K:Cont):Zb9 C j g n K=Qe Tryz.prog C ZaQ [j] g n K:=by kernel_rfl
def QbA (C:CT) (B E:Value) (g:G) (n:Nat) (K:Cont):Prop:=
Xf B λF=>
Xc F λl7 F=>
kLd g l7 (F+8) λF=>
Jd F E 15 λF=>
Xc F λF H=>
kLd g F (H+1) λF=>
kUn .not F λF=>
Qa F (
Zc K (.int .i64 0) g n) (
Xf B λF=>
Xc F λF H=>
kLd g F (H+9) λF=>
Xf B λB=>
Xc B λB H=>
kLd g B (H+8) λB=>
Jd B E 15 λB=>
Xc B λB H=>
Ql g B (H+2) 8 λB=>
C Qv [F,E,.agg B.toArray] g n λB E F=>
Zc K B E F)
theorem Xcr (C:CT) (j E:Value) (g:G) (n:Nat) (K:Cont):QbA C j E g n K=Qe Tryz.prog C J7 [j,E] g n K:=by kernel_rfl
def JbI (C:CT) (B E:Value) (g:G) (n:Nat) (K:Cont):Prop:=
Jb .ptr .eql B (.pointer none) λF=>
Qa F (
Zc K (.tuple #[.slice none 0 0,.int .i64 1]) g n) (
C Xae [B] g n λF H I=>
kUn .not F λF=>
Qa F (
Zc K (.tuple #[.slice none 0 0,.int .i64 15]) H I) (
C Qr [B,E] H I λE F H=>
Zl [.int .i64 0,.int .i64 0,.int .u64 0,.int .u64 0,.int .u64 0,.int .u64 0,.int .u64 0,.int .u64 0,.int .u64 0,.int .u64 0,.int .i64 0] .exact F H λl6 F H=>
Jj E λE=>
E.length=11∧Qu F l6 0 E λE=>
kLd E l6 (0+0) λF=>
Jb .int .eql F (.int .i64 0) λF=>
Qa F (
Zc K (.tuple #[.slice none 0 0,.int .i64 14]) E H) (
Ql E l6 0 11 λF=>
C Q5 [B,.agg F.toArray] E H λB E F=>
Zc K (.tuple #[B,.int .i64 0]) E F)))
theorem Jco (C:CT) (j E:Value) (g:G) (n:Nat) (K:Cont):JbI C j E g n K=Qe Tryz.prog C Zax [j,E] g n K:=by kernel_rfl
def Xbw (C:CT) (B:Value) (g:G) (n:Nat) (K:Cont):Prop:=
Jb .ptr .eql B (.pointer none) λE=>
Qa E (
Zc K (.slice none 0 0) g n) (
Xf B λB=>
Xc B λl7 B=>
kLd g l7 (B+0) λB=>
C JQ [B] g n λB E F=>
Zc K B E F)
theorem Qct (C:CT) (j:Value) (g:G) (n:Nat) (K:Cont):Xbw C j g n K=Qe Tryz.prog C Qav [j] g n K:=by kernel_rfl
def ZbA (C:CT) (B E F:Value) (g:G) (n:Nat) (K:Cont):Prop:=
C Xn [B,E] g n λE H I=>
Jb .ptr .eql E (.pointer none) λJ=>
Qa J (
Zc K (.bool false) H I) (
C Jo [B,F] H I λB H I=>
kUn .not B λB=>
Qa B (
Zc K (.bool false) H I) (
Xf E λB=>
Xc B λB J=>
kLd H B (J+0) λB=>
C Q8 [B,F] H I λB H I=>
C X3 [E,B] H I λB B H=>
Xf E λE=>
Xc E λE I=>
kLd B E (I+0) λE=>
C ZY [E,F] B H λB E F=>
Zc K B E F))
theorem Zcp (C:CT) (j I E:Value) (g:G) (n:Nat) (K:Cont):ZbA C j I E g n K=Qe Tryz.prog C Qax [j,I,E] g n K:=by kernel_rfl
def QbZ (C:CT) (B:Value) (g:G) (n:Nat) (K:Cont):Prop:=
Jb .ptr .neq B (.pointer none) λE=>
Qa E (
Xf B λE=>
Xc E λl6 E=>
kLd g l6 (E+9) λE=>
C QaT [E] g n λE E F=>
C Z8 [B] E F λB B E=>
Zc K (.tuple #[]) B E) (
Zc K (.tuple #[]) g n)
theorem ZcI (C:CT) (j:Value) (g:G) (n:Nat) (K:Cont):QbZ C j g n K=Qe Tryz.prog C QaF [j] g n K:=by kernel_rfl
def Zbp (C:CT) (B E:Value) (g:G) (n:Nat) (K:Cont):Prop:=
C Xn [B,E] g n λB E F=>
Jb .ptr .eql B (.pointer none) λH=>
Qa H (
Zc K (.tuple #[.slice none 0 0,.slice none 0 0,.slice none 0 0]) E F) (
Xf B λH=>
Xc H λH I=>
Xf B λJ=>
Xc J λJ M=>
Xf B λB=>
Xc B λB O=>
C Jai [(ptr H (I+1))] E F λE F H=>
C Jai [(ptr J (M+2))] F H λF H I=>
C Jai [(ptr B (O+3))] H I λB H I=>
Zc K (.tuple #[E,F,B]) H I)
theorem Xcf (C:CT) (j E:Value) (g:G) (n:Nat) (K:Cont):Zbp C j E g n K=Qe Tryz.prog C Xao [j,E] g n K:=by kernel_rfl
def Xau (C:CT) (B:Value) (g:G) (n:Nat) (K:Cont):Prop:=
Jb .slice .eql B (.slice none 0 0) λE=>
Qa E (
Zc K (.slice none 0 0) g n) (
Qf (reps 0 [.int .u64 0]) [] λc5=>
Zl c5 .exact g n λl5 E n5=>
Zs (.slice (some ⟨l5,0,none⟩) 0 0) B 1 8 E n5 λB E F=>
Zc K B E F)
theorem Xa4 (C:CT) (j:Value) (g:G) (n:Nat) (K:Cont):Xau C j g n K=Qe Tryz.prog C JP [j] g n K:=by kernel_rfl
def Zdy (C:CT) (K:Cont) (t:Env) (g:G) (n:Nat):Prop:=
Zc K (.tuple #[t 10,.int .i64 0]) g n
def QdI (C:CT) (K:Cont) (I_l1:Qk) (t:Env) (g:G) (n:Nat):Prop:=
Jb .int .lss (t 39) (t 38) λB=>
Qa B (
Jd (t 37) (t 39) 1 λE=>
Xc E λF H=>
kLd g F H λF=>
Xf (t 10) λH=>
Xc H λI J=>
kLd g I (J+10) λM=>
Jd M (t 39) 10 λO=>
Xc O λP Q=>
kSt g P (Q+3) F λR=>
Jb .int .add (t 39) (.int .i64 1) λT=>
I_l1 (puts t [(40,B),(41,t 39),(42,E),(43,F),(11,t 39),(12,F),(44,t 10),(45,H),(46,(ptr I (J+10))),(47,M),(48,t 39),(49,F),(50,O),(51,(ptr P (Q+3))),(52,T),(39,T)]) R n) (
Zdy C K (puts t [(40,B)]) g n)
def Qfn (C:CT) (B E F:Value) (g:G) (n:Nat) (K:Cont):Prop:=
Jb .int .lss B (.int .i64 0) λH=>
Qa H (
Zc K (.tuple #[.pointer none,.int .i64 1]) g n) (
Jb .int .geq B (.int .i64 8) λI=>
Qa I (
Zc K (.tuple #[.pointer none,.int .i64 1]) g n) (
C QcH [E] g n λJ M O=>
Qc J 0 λP=>
Qc J 1 λQ=>
Jb .int .neq Q (.int .i64 0) λR=>
Qa R (
Zc K (.tuple #[.pointer none,Q]) M O) (
Jak F λT=>
Jb .int .gtr T (.int .i64 4096) λU=>
Qa U (
Zc K (.tuple #[.pointer none,.int .i64 3]) M O) (
Jak F λV=>
Zcr V V [.int .u32 0,.int .i32 0,.int .u32 0,.int .u64 0,.int .i64 0,.int .i64 0,.int .i64 0,.int .i64 0,.int .i64 0,.bool false] 72 M O λM O W=>
Qf [.int .i64 0,.int .u64 0,.int .u64 0,.int .u64 0,.int .u64 0,.int .u64 0,.int .u64 0,.int .u64 0,.int .u64 0,.int .i64 0,.slice none 0 0,.pointer none,.int .i64 0,.bool false] [(0,none,B),(11,none,P),(13,none,.bool true),(10,none,M)] λX=>
Jj (.agg X.toArray) λY=>
Zl Y .exact O W λO W Y=>
Jak F λZ=>
lfp (QdI C K) (puts (Qi [B,E,F]) [(6,.pointer none),(7,.int .i64 0),(13,B),(14,H),(15,.bool false),(16,B),(17,I),(18,I),(20,E),(21,J),(19,J),(22,P),(23,Q),(8,P),(9,Q),(24,Q),(25,R),(27,F),(28,T),(29,U),(30,B),(31,P),(32,F),(33,V),(34,M),(35,.agg X.toArray),(36,ptr O 0),(10,ptr O 0),(37,F),(38,Z),(39,.int .i64 0)]) W Y))))
theorem Qe0 (C:CT) (j I E:Value) (g:G) (n:Nat) (K:Cont):Qfn C j I E g n K=Qe Tryz.prog C Qbc [j,I,E] g n K:=by kernel_rfl
def Jdf (C:CT) (g:G) (n:Nat) (K:Cont):Prop:=
Zl [.nilFunc,.nilFunc,.nilFunc,.nilFunc,.nilFunc,.nilFunc,.nilFunc,.nilFunc,.nilFunc,.nilFunc,.nilFunc] .exact g n λl0 B E=>
Qf [.nilFunc,.nilFunc,.nilFunc,.nilFunc,.nilFunc,.nilFunc,.nilFunc,.nilFunc,.nilFunc,.nilFunc,.nilFunc] [(1,none,(.func (.func ZT) #[] #[])),(2,none,(.func (.func JN) #[] #[])),(3,none,(.func (.func Z7) #[] #[])),(4,none,(.func (.func JJ) #[] #[])),(5,none,(.func (.func JU) #[] #[])),(6,none,(.func (.func JT) #[] #[])),(7,none,(.func (.func XO) #[] #[])),(8,none,(.func (.func ZV) #[] #[])),(9,none,(.func (.func QO) #[] #[])),(10,none,(.func (.func Xq) #[] #[]))] λc1=>
Jj (.agg c1.toArray) λF=>
F.length=11∧Qu B l0 0 F λB=>
Ql B l0 0 11 λr0=>
Zc K (.agg r0.toArray) B E
theorem QdP (C:CT) (g:G) (n:Nat) (K:Cont):Jdf C g n K=Qe Tryz.prog C Jbj [] g n K:=by kernel_rfl
def Za7 (C:CT) (B E:Value) (g:G) (n:Nat) (K:Cont):Prop:=
Jb .ptr .eql B (.pointer none) λF=>
Qa F (
Zc K (.pointer none) g n) (
Jb .int .lss E (.int .i64 0) λF=>
Qa F (
Zc K (.pointer none) g n) (
Xf B λF=>
Xc F λF H=>
kLd g F (H+1) λF=>
Jak F λF=>
Jb .int .geq E F λF=>
Qa F (
Zc K (.pointer none) g n) (
Xf B λB=>
Xc B λB F=>
kLd g B (F+1) λB=>
Jd B E 1 λB=>
Xc B λB E=>
kLd g B E λB=>
Zc K B g n)))
theorem QbL (C:CT) (j E:Value) (g:G) (n:Nat) (K:Cont):Za7 C j E g n K=Qe Tryz.prog C Jk [j,E] g n K:=by kernel_rfl
def Zcx (C:CT) (B:Value) (g:G) (n:Nat) (K:Cont):Prop:=
Jb .ptr .neq B (.pointer none) λE=>
Qa E (
Xf B λB=>
Xc B λB E=>
kLd g B (E+13) λB=>
Zc K B g n) (
Zc K (.bool false) g n)
theorem Zc6 (C:CT) (j:Value) (g:G) (n:Nat) (K:Cont):Zcx C j g n K=Qe Tryz.prog C QaV [j] g n K:=by kernel_rfl
def QbW (C:CT) (B:Value) (g:G) (n:Nat) (K:Cont):Prop:=
Jb .ptr .eql B (.pointer none) λE=>
Qa E (
Zc K (.slice none 0 0) g n) (
Xf B λB=>
Xc B λl7 B=>
kLd g l7 (B+11) λB=>
C JaN [B] g n λB E F=>
Zc K B E F)
theorem XcC (C:CT) (j:Value) (g:G) (n:Nat) (K:Cont):QbW C j g n K=Qe Tryz.prog C QaH [j] g n K:=by kernel_rfl
def Xce (C:CT) (B:Value) (g:G) (n:Nat) (K:Cont):Prop:=
Jb .ptr .eql B (.pointer none) λE=>
Qa E (
Zc K (.int .i64 0) g n) (
Xf B λB=>
Xc B λl7 B=>
kLd g l7 (B+12) λB=>
Zc K B g n)
theorem QcQ (C:CT) (j:Value) (g:G) (n:Nat) (K:Cont):Xce C j g n K=Qe Tryz.prog C XaP [j] g n K:=by kernel_rfl
def X1 (C:CT) (K:Cont) (t:Env) (g:G) (n:Nat):Prop:=
Xc (t 1) λB E=>
kLd g B (E+0) λB=>
XaQ .u64 B λB=>
Xc (t 1) λE F=>
kLd g E (F+1) λE=>
XaQ .u64 E λE=>
Jb .int .shl E (.int .u64 8) λE=>
Jb .int .add B E λB=>
Xc (t 1) λE F=>
kLd g E (F+2) λE=>
XaQ .u64 E λE=>
Jb .int .shl E (.int .u64 12) λE=>
Jb .int .add B E λB=>
Xc (t 1) λE F=>
kLd g E (F+3) λE=>
XaQ .u64 E λE=>
Jb .int .shl E (.int .u64 16) λE=>
Jb .int .add B E λB=>
XaQ .u64 (t 4) λE=>
Jb .int .shl E (.int .u64 32) λE=>
Jb .int .add B E λB=>
Zc K (.tuple #[B,.int .i64 0]) g n
def Zbd (C:CT) (B:Value) (g:G) (n:Nat) (K:Cont):Prop:=
Jj B λc1=>
Zl c1 .exact g n λl1 E n1=>
Ql E l1 0 5 λc5=>
C Xav [.agg c5.toArray] E n1 λE F H=>
kUn .not E λI=>
Qa I (
Zc K (.tuple #[.int .u64 0,.int .i64 11]) F H) (
kLd F l1 (0+4) λJ=>
Jb .int .lss J (.int .i64 0) λM=>
Qa M (
Jb .int .add J (.int .i64 4294967296) λO=>
X1 C K (puts (Qi [B]) [(1,ptr l1 0),(2,.int .u64 0),(3,.int .i64 0),(5,.agg c5.toArray),(6,E),(7,I),(8,(ptr l1 (0+4))),(9,J),(4,J),(10,J),(11,M),(12,J),(13,O),(4,O)]) F H) (
X1 C K (puts (Qi [B]) [(1,ptr l1 0),(2,.int .u64 0),(3,.int .i64 0),(5,.agg c5.toArray),(6,E),(7,I),(8,(ptr l1 (0+4))),(9,J),(4,J),(10,J),(11,M)]) F H))
theorem Qb3 (C:CT) (j:Value) (g:G) (n:Nat) (K:Cont):Zbd C j g n K=Qe Tryz.prog C Qak [j] g n K:=by kernel_rfl
def ZbI (C:CT) (B E F H:Value) (g:G) (n:Nat) (K:Cont):Prop:=
Jb .ptr .eql B (.pointer none) λI=>
Qa I (
Zc K (.tuple #[.bool false,.slice none 0 0]) g n) (
C Jbc [E,F] g n λI J M=>
kUn .not I λI=>
Qa I (
Zc K (.tuple #[.bool false,.slice none 0 0]) J M) (
C ZY [B,E] J M λI J M=>
kUn .not I λI=>
Qa I (
C Q8 [B,E] J M λI O P=>
Zc K (.tuple #[.bool false,I]) O P) (
C Qr [B,E] J M λI J M=>
Zl [.int .i64 0,.int .i64 0,.int .u64 0,.int .u64 0,.int .u64 0,.int .u64 0,.int .u64 0,.int .u64 0,.int .u64 0,.int .u64 0,.int .i64 0] .exact J M λJ M O=>
Jj I λI=>
I.length=11∧Qu M J 0 I λI=>
Ji (ptr J (0+2)) F 8 1 λF=>
Xc F λF M=>
kSt I F M H λF=>
Xf B λB=>
Xc B λB H=>
kLd F B (H+0) λB=>
Ql F J (0+2) 8 λH=>
C QN [B,E,.int .i64 3,.agg H.toArray] F O λB B E=>
Zc K (.tuple #[.bool true,.slice none 0 0]) B E)))
theorem Xcp (C:CT) (j I E J:Value) (g:G) (n:Nat) (K:Cont):ZbI C j I E J g n K=Qe Tryz.prog C Zaw [j,I,E,J] g n K:=by kernel_rfl
def Qcw (C:CT) (B:Value) (g:G) (n:Nat) (K:Cont):Prop:=
Zl [.int .i64 0,.int .i64 0,.bool false,.bool false,.int .u64 0,.int .u64 0,.int .u64 0,.int .u64 0,.int .u64 0,.int .u64 0,.int .u64 0,.int .u64 0] .exact g n λl2 E n2=>
C XaA [B] E n2 λE F n5=>
Jb .int .eql E (.int .i64 0) λE=>
Qa E (
Qf [.int .i64 0,.int .i64 0,.bool false,.bool false,.int .u64 0,.int .u64 0,.int .u64 0,.int .u64 0,.int .u64 0,.int .u64 0,.int .u64 0,.int .u64 0] [] λc7=>
Jj (.agg c7.toArray) λE=>
E.length=12∧Qu F l2 0 E λE=>
Ql E l2 0 12 λr0=>
Zc K (.tuple #[.agg r0.toArray,.bool false]) E n5) (
Xf B λB=>
Xc B λB E=>
kLd F B (E+0) λB=>
Jd B (.int .i64 0) 12 λB=>
Xc B λB E=>
Ql F B E 12 λB=>
Jj (.agg B.toArray) λB=>
B.length=12∧Qu F l2 0 B λB=>
Ql B l2 0 12 λr0=>
Zc K (.tuple #[.agg r0.toArray,.bool true]) B n5)
theorem Xc8 (C:CT) (j:Value) (g:G) (n:Nat) (K:Cont):Qcw C j g n K=Qe Tryz.prog C Zad [j] g n K:=by kernel_rfl
def XbW (C:CT) (B E:Value) (g:G) (n:Nat) (K:Cont):Prop:=
Xf B λF=>
Xc F λl7 F=>
kLd g l7 (F+8) λF=>
Jd F E 15 λF=>
Xf F λH=>
Xc H λH I=>
kLd g H (I+0) λH=>
kUn .not H λH=>
Qa H (
Xf B λB=>
Xc B λB H=>
kLd g B (H+9) λB=>
C QbH [B,E] g n λB E H=>
Qc B 0 λI=>
Qc B 1 λB=>
Xf F λB=>
Xc B λB J=>
Jj I λI=>
I.length=8∧Qu E B (J+2) I λB=>
Xf F λE=>
Xc E λE F=>
kSt B E (F+0) (.bool true) λB=>
Zc K (.tuple #[]) B H) (
Zc K (.tuple #[]) g n)
theorem Xcy (C:CT) (j E:Value) (g:G) (n:Nat) (K:Cont):XbW C j E g n K=Qe Tryz.prog C ZaG [j,E] g n K:=by kernel_rfl
def Jgr (C:CT) (B E F:Value) (g:G) (n:Nat) (K:Cont):Prop:=
Jj B λc3=>
Zl c3 .exact g n λl3 B n3=>
Jj F λc5=>
Zl c5 .exact B n3 λl5 B n5=>
Zl [.bool false,.bool false,.int .u64 0,.int .u64 0,.int .u64 0,.int .u64 0,.int .u64 0,.int .u64 0,.int .u64 0,.int .u64 0,.int .i64 0,.int .u8 0,.int .i64 0,.int .i64 0,.int .u8 0] .exact B n5 λl6 B F=>
Ql B l3 0 15 λH=>
C Xbd [.agg H.toArray] B F λB F H=>
kUn .not B λB=>
Qa B (
Qf [.bool false,.bool false,.int .u64 0,.int .u64 0,.int .u64 0,.int .u64 0,.int .u64 0,.int .u64 0,.int .u64 0,.int .u64 0,.int .i64 0,.int .u8 0,.int .i64 0,.int .i64 0,.int .u8 0] [] λB=>
Jj (.agg B.toArray) λI=>
I.length=15∧Qu F l6 0 I λI=>
Ql I l6 0 15 λr0=>
Zc K (.tuple #[.agg r0.toArray,.slice none 0 0,.int .i64 1]) I H) (
C QaW [E] F H λF H I=>
kUn .not F λF=>
Qa F (
Qf [.bool false,.bool false,.int .u64 0,.int .u64 0,.int .u64 0,.int .u64 0,.int .u64 0,.int .u64 0,.int .u64 0,.int .u64 0,.int .i64 0,.int .u8 0,.int .i64 0,.int .i64 0,.int .u8 0] [] λB=>
Jj (.agg B.toArray) λF=>
F.length=15∧Qu H l6 0 F λF=>
Ql F l6 0 15 λr0=>
Zc K (.tuple #[.agg r0.toArray,.slice none 0 0,.int .i64 1]) F I) (
Ql H l5 0 12 λF=>
C ZaT [.agg F.toArray] H I λF H I=>
kUn .not F λF=>
Qa F (
Qf [.bool false,.bool false,.int .u64 0,.int .u64 0,.int .u64 0,.int .u64 0,.int .u64 0,.int .u64 0,.int .u64 0,.int .u64 0,.int .i64 0,.int .u8 0,.int .i64 0,.int .i64 0,.int .u8 0] [] λB=>
Jj (.agg B.toArray) λF=>
F.length=15∧Qu H l6 0 F λF=>
Ql F l6 0 15 λr0=>
Zc K (.tuple #[.agg r0.toArray,.slice none 0 0,.int .i64 1]) F I) (
kLd H l5 (0+0) λF=>
C JcD [F] H I λF H I=>
kUn .not F λF=>
Qa F (
Qf [.bool false,.bool false,.int .u64 0,.int .u64 0,.int .u64 0,.int .u64 0,.int .u64 0,.int .u64 0,.int .u64 0,.int .u64 0,.int .i64 0,.int .u8 0,.int .i64 0,.int .i64 0,.int .u8 0] [] λB=>
Jj (.agg B.toArray) λB=>
B.length=15∧Qu H l6 0 B λB=>
Ql B l6 0 15 λr0=>
Zc K (.tuple #[.agg r0.toArray,.slice none 0 0,.int .i64 1]) B I) (
kLd H l3 (0+12) λB=>
Jb .int .neq B (.int .i64 0) λB=>
Qa B (
Qf [.bool false,.bool false,.int .u64 0,.int .u64 0,.int .u64 0,.int .u64 0,.int .u64 0,.int .u64 0,.int .u64 0,.int .u64 0,.int .i64 0,.int .u8 0,.int .i64 0,.int .i64 0,.int .u8 0] [] λB=>
Jj (.agg B.toArray) λB=>
B.length=15∧Qu H l6 0 B λB=>
Ql B l6 0 15 λr0=>
Zc K (.tuple #[.agg r0.toArray,.slice none 0 0,.int .i64 15]) B I) (
kLd H l3 (0+0) λB=>
kUn .not B λB=>
Qa B (
Qf [.bool false,.bool false,.int .u64 0,.int .u64 0,.int .u64 0,.int .u64 0,.int .u64 0,.int .u64 0,.int .u64 0,.int .u64 0,.int .i64 0,.int .u8 0,.int .i64 0,.int .i64 0,.int .u8 0] [] λB=>
Jj (.agg B.toArray) λB=>
B.length=15∧Qu H l6 0 B λB=>
Ql B l6 0 15 λr0=>
Zc K (.tuple #[.agg r0.toArray,.slice none 0 0,.int .i64 16]) B I) (
Ql H l3 0 15 λB=>
kLd H l5 (0+1) λF=>
Qf [.bool false,.bool false,.int .u64 0,.int .u64 0,.int .u64 0,.int .u64 0,.int .u64 0,.int .u64 0,.int .u64 0,.int .u64 0,.int .i64 0,.int .u8 0,.int .i64 0,.int .i64 0,.int .u8 0,.int .i64 0,.slice none 0 0] [(0,some 15,.agg B.toArray),(15,none,F)] λB=>
Jj (.agg B.toArray) λB=>
Zl B .exact H I λB F H=>
kLd F l5 (0+0) λI=>
Ql F l5 0 12 λJ=>
C QcF [] F H λH M O=>
(Xc (ptr l5 (0+0)) λl _=>M l=F l)∧(Xc (ptr l5 0) λl _=>M l=F l)∧JdY H I 6 1 none λF=>
Qbu C F [ptr B 0,E,.agg J.toArray] M O λE E F=>
Ql E B (0+0) 15 λH=>
kLd E B (0+16) λI=>
Jj (.agg H.toArray) λH=>
H.length=15∧Qu E l6 0 H λH=>
(Xc (ptr B (0+16)) λl _=>H l=E l)∧Ql H l6 0 15 λr0=>
Zc K (.tuple #[.agg r0.toArray,I,.int .i64 0]) H F))))))
theorem JfJ (C:CT) (j I E:Value) (g:G) (n:Nat) (K:Cont):Jgr C j I E g n K=Qe Tryz.prog C Jck [j,I,E] g n K:=by kernel_rfl
def QaB (C:CT) (K:Cont) (t:Env) (g:G) (n:Nat):Prop:=
Xc (t 4) λB E=>
Ql g B E 12 λB=>
Xc (t 2) λE F=>
Jj (.agg B.toArray) λB=>
B.length=12∧Qu g E F B λB=>
Xc (t 2) λlr0 or0=>
Ql B lr0 or0 12 λr0=>
Zc K (.tuple #[.agg r0.toArray,t 5]) B n
def XcZ (C:CT) (B:Value) (g:G) (n:Nat) (K:Cont):Prop:=
Zl [.int .i64 0,.int .i64 0,.bool false,.bool false,.int .u64 0,.int .u64 0,.int .u64 0,.int .u64 0,.int .u64 0,.int .u64 0,.int .u64 0,.int .u64 0] .exact g n λl2 E n2=>
C Zad [B] E n2 λE F H=>
Qc E 0 λI=>
Qc E 1 λJ=>
Zl [.int .i64 0,.int .i64 0,.bool false,.bool false,.int .u64 0,.int .u64 0,.int .u64 0,.int .u64 0,.int .u64 0,.int .u64 0,.int .u64 0,.int .u64 0] .exact F H λl4 F H=>
Jj I λM=>
M.length=12∧Qu F l4 0 M λF=>
Qa J (
Xf B λM=>
Xc M λO P=>
kLd F O (P+0) λQ=>
Xx Q (some (.int .i64 1)) none none 12 λR=>
Xf B λT=>
Xc T λU V=>
kSt F U (V+0) R λW=>
QaB C K (puts (Qi [B]) [(2,ptr l2 0),(3,.bool false),(7,B),(8,E),(6,E),(9,I),(10,J),(4,ptr l4 0),(5,J),(11,J),(12,B),(13,B),(14,M),(15,(ptr O (P+0))),(16,Q),(17,R),(18,T),(19,(ptr U (V+0)))]) W H) (
QaB C K (puts (Qi [B]) [(2,ptr l2 0),(3,.bool false),(7,B),(8,E),(6,E),(9,I),(10,J),(4,ptr l4 0),(5,J),(11,J)]) F H)
theorem Qdm (C:CT) (j:Value) (g:G) (n:Nat) (K:Cont):XcZ C j g n K=Qe Tryz.prog C Qy [j] g n K:=by kernel_rfl
def Xa7 (C:CT) (K:Cont) (I_l1:Qk) (t:Env) (g:G) (n:Nat):Prop:=
Jb .int .lss (t 11) (t 10) λB=>
Qa B (
Jd (t 9) (t 11) 13 λE=>
Xc E λF H=>
Ql g F H 13 λF=>
Zl [.int .i64 0,.int .i64 0,.int .i64 0,.bool false,.bool false,.int .u64 0,.int .u64 0,.int .u64 0,.int .u64 0,.int .u64 0,.int .u64 0,.int .u64 0,.int .u64 0] .exact g n λl7 H I=>
Jj (.agg F.toArray) λJ=>
J.length=13∧Qu H l7 0 J λH=>
kSt H l7 (0+1+1) (t 2) λH=>
kLd H l7 (0+0) λJ=>
C Xn [t 0,J] H I λH I M=>
Jb .ptr .neq H (.pointer none) λO=>
Qa O (
Xf H λP=>
Xc P λQ R=>
Ql I l7 (0+1) 12 λT=>
C Qs [(ptr Q (R+3)),.agg T.toArray] I M λU V W=>
Jb .int .add (t 11) (.int .i64 1) λX=>
I_l1 (puts t [(12,B),(13,E),(14,.agg F.toArray),(7,ptr l7 0),(15,t 2),(16,(ptr l7 (0+1))),(17,(ptr l7 (0+1+1))),(18,t 0),(19,(ptr l7 (0+0))),(20,J),(21,H),(8,H),(22,H),(23,O),(24,H),(25,P),(26,(ptr Q (R+3))),(27,(ptr l7 (0+1))),(28,.agg T.toArray),(29,U),(30,X),(11,X)]) V W) (
Jb .int .add (t 11) (.int .i64 1) λX=>
I_l1 (puts t [(12,B),(13,E),(14,.agg F.toArray),(7,ptr l7 0),(15,t 2),(16,(ptr l7 (0+1))),(17,(ptr l7 (0+1+1))),(18,t 0),(19,(ptr l7 (0+0))),(20,J),(21,H),(8,H),(22,H),(23,O),(30,X),(11,X)]) I M)) (
Zc K (.tuple #[]) g n)
def Xby (C:CT) (B E F:Value) (g:G) (n:Nat) (K:Cont):Prop:=
Jak E λH=>
lfp (Xa7 C K) (puts (Qi [B,E,F]) [(9,E),(10,H),(11,.int .i64 0)]) g n
theorem Zco (C:CT) (j I E:Value) (g:G) (n:Nat) (K:Cont):Xby C j I E g n K=Qe Tryz.prog C Jp [j,I,E] g n K:=by kernel_rfl
def Zah (C:CT) (K:Cont) (t:Env) (g:G) (n:Nat):Prop:=
Xf (t 0) λB=>
Xc B λB E=>
kLd g B (E+0) λB=>
Xc (t 3) λE F=>
kLd g E (F+1) λE=>
Xc (t 8) λF H=>
Ql g F H 8 λF=>
C QN [B,E,t 7,.agg F.toArray] g n λB B E=>
Xc (t 3) λF H=>
Ql B F H 12 λF=>
Xc (t 6) λH I=>
Ql B H I 11 λH=>
C QaN [.agg F.toArray,.agg H.toArray,t 7] B E λB E F=>
Zc K (.tuple #[B,.int .i64 0]) E F
def Z0 (C:CT) (K:Cont) (t:Env) (g:G) (n:Nat):Prop:=
Qa (t 59) (
Xc (t 3) λB E=>
Ql g B (E+4) 8 λF=>
Xc (t 8) λH I=>
Jj (.agg F.toArray) λJ=>
J.length=8∧Qu g H I J λH=>
Zah C K (puts t [(63,(ptr B (E+4))),(64,.agg F.toArray)]) H n) (
Zah C K t g n)
def Jaf (C:CT) (K:Cont) (t:Env) (g:G) (n:Nat):Prop:=
Xc (t 3) λB E=>
kLd g B (E+0) λF=>
Jb .int .eql F (.int .i64 8) λH=>
Qa H (
Z0 C K (puts t [(57,(ptr B (E+0))),(58,F),(60,H),(59,H)]) g n) (
Jb .int .eql F (.int .i64 9) λI=>
Qa I (
Z0 C K (puts t [(57,(ptr B (E+0))),(58,F),(60,H),(59,H),(61,I),(59,I)]) g n) (
Jb .int .eql F (.int .i64 10) λJ=>
Z0 C K (puts t [(57,(ptr B (E+0))),(58,F),(60,H),(59,H),(61,I),(59,I),(62,J),(59,J)]) g n))
def Zae (C:CT) (K:Cont) (t:Env) (g:G) (n:Nat):Prop:=
Qa (t 53) (
Qf [.int .u64 0,.int .u64 0,.int .u64 0,.int .u64 0,.int .u64 0,.int .u64 0,.int .u64 0,.int .u64 0] [] λB=>
Xc (t 8) λE F=>
Jj (.agg B.toArray) λH=>
H.length=8∧Qu g E F H λE=>
Jaf C K (puts t [(56,.agg B.toArray)]) E n) (
Jaf C K t g n)
def Zb1 (C:CT) (B E:Value) (g:G) (n:Nat) (K:Cont):Prop:=
Jj E λc3=>
Zl c3 .exact g n λl3 F n3=>
Jb .ptr .eql B (.pointer none) λH=>
Qa H (
Zc K (.tuple #[.slice none 0 0,.int .i64 1]) F n3) (
Ql F l3 0 12 λI=>
C ZaT [.agg I.toArray] F n3 λF J M=>
kUn .not F λO=>
Qa O (
Zc K (.tuple #[.slice none 0 0,.int .i64 1]) J M) (
kLd J l3 (0+0) λP=>
C Xb9 [P] J M λJ M Q=>
kUn .not J λR=>
Qa R (
Zc K (.tuple #[.slice none 0 0,.int .i64 1]) M Q) (
kLd M l3 (0+1) λT=>
C Qr [B,T] M Q λM Q U=>
Zl [.int .i64 0,.int .i64 0,.int .u64 0,.int .u64 0,.int .u64 0,.int .u64 0,.int .u64 0,.int .u64 0,.int .u64 0,.int .u64 0,.int .i64 0] .exact Q U λl6 Q U=>
Jj M λV=>
V.length=11∧Qu Q l6 0 V λQ=>
kLd Q l3 (0+0) λV=>
kLd Q l6 (0+0) λW=>
C Qcx [] Q U λU X Y=>
(Xc (ptr l3 (0+0)) λl _=>X l=Q l)∧(Xc (ptr l6 (0+0)) λl _=>X l=Q l)∧JdY U V 15 10 (some 10) λQ=>
JdY Q W 10 1 none λZ=>
Ql X l6 (0+2) 8 λj=>
Zl [.int .u64 0,.int .u64 0,.int .u64 0,.int .u64 0,.int .u64 0,.int .u64 0,.int .u64 0,.int .u64 0] .exact X Y λX Y t=>
Jj (.agg j.toArray) λw=>
w.length=8∧Qu Y X 0 w λY=>
Jb .int .eql Z (.int .i64 (-1)) λw=>
Qa w (
Zc K (.tuple #[.slice none 0 0,.int .i64 16]) Y t) (
Jb .int .eql Z (.int .i64 (-2)) λAA=>
Qa AA (
Zc K (.tuple #[.slice none 0 0,.int .i64 0]) Y t) (
Jb .int .eql Z (.int .i64 0) λAB=>
Qa AB (
Xf B λAD=>
Xc AD λAD AE=>
kLd Y AD (AE+0) λAD=>
kLd Y l3 (0+1) λAE=>
C XaE [AD,AE] Y t λAD AD AE=>
Ql AD l3 0 12 λAF=>
Ql AD l6 0 11 λAG=>
C QaN [.agg AF.toArray,.agg AG.toArray,Z] AD AE λAD AE AF=>
Zc K (.tuple #[AD,.int .i64 0]) AE AF) (
Jb .int .eql Z (.int .i64 5) λAD=>
Qa AD (
Zae C K (puts (Qi [B,E]) [(3,ptr l3 0),(4,.slice none 0 0),(5,.int .i64 0),(9,B),(10,H),(11,.bool false),(12,.agg I.toArray),(13,F),(14,O),(15,O),(16,.bool false),(17,(ptr l3 (0+0))),(18,P),(19,J),(20,R),(21,R),(22,B),(23,(ptr l3 (0+1))),(24,T),(25,M),(6,ptr l6 0),(27,(ptr l3 (0+0))),(28,V),(30,(ptr l6 (0+0))),(31,W),(26,U),(29,Q),(32,Z),(7,Z),(33,(ptr l6 (0+2))),(34,.agg j.toArray),(8,ptr X 0),(35,Z),(37,w),(36,w),(39,AA),(38,AA),(41,AB),(40,AB),(54,AD),(53,AD)]) Y t) (
Jb .int .eql Z (.int .i64 8) λAE=>
Zae C K (puts (Qi [B,E]) [(3,ptr l3 0),(4,.slice none 0 0),(5,.int .i64 0),(9,B),(10,H),(11,.bool false),(12,.agg I.toArray),(13,F),(14,O),(15,O),(16,.bool false),(17,(ptr l3 (0+0))),(18,P),(19,J),(20,R),(21,R),(22,B),(23,(ptr l3 (0+1))),(24,T),(25,M),(6,ptr l6 0),(27,(ptr l3 (0+0))),(28,V),(30,(ptr l6 (0+0))),(31,W),(26,U),(29,Q),(32,Z),(7,Z),(33,(ptr l6 (0+2))),(34,.agg j.toArray),(8,ptr X 0),(35,Z),(37,w),(36,w),(39,AA),(38,AA),(41,AB),(40,AB),(54,AD),(53,AD),(55,AE),(53,AE)]) Y t)))))))
theorem QcB (C:CT) (j E:Value) (g:G) (n:Nat) (K:Cont):Zb1 C j E g n K=Qe Tryz.prog C ZaE [j,E] g n K:=by kernel_rfl
def JaK (C:CT) (K:Cont) (t:Env) (g:G) (n:Nat):Prop:=
Xf (t 9) λB=>
Xc B λB E=>
Ql g B (E+0) 15 λB=>
Xf (t 9) λE=>
Xc E λE F=>
kLd g E (F+16) λH=>
Xc (t 6) λI J=>
Jj (.agg B.toArray) λB=>
B.length=15∧Qu g I J B λB=>
(Xc (ptr E (F+16)) λl _=>B l=g l)∧Xc (t 6) λlr0 or0=>
Ql B lr0 or0 15 λr0=>
Zc K (.tuple #[.agg r0.toArray,H,.int .i64 0]) B n
def Zba (C:CT) (K:Cont) (t:Env) (g:G) (n:Nat):Prop:=
Xf (t 9) λB=>
Xc B λE F=>
kLd g E (F+0+14) λH=>
Jb .int .neq H (.int .u8 0) λI=>
Qa I (
Xf (t 9) λJ=>
Xc J λJ M=>
Ql g J (M+0) 15 λJ=>
Xc (t 6) λM O=>
Jj (.agg J.toArray) λJ=>
J.length=15∧Qu g M O J λJ=>
Xc (t 6) λlr0 or0=>
Ql J lr0 or0 15 λr0=>
Zc K (.tuple #[.agg r0.toArray,.slice none 0 0,.int .i64 0]) J n) (
Xf (t 9) λJ=>
Xc J λM O=>
kLd g M (O+0+13) λP=>
Xf (t 9) λQ=>
Xc Q λR T=>
kLd g R (T+0+12) λU=>
Jb .int .eql U (.int .i64 1) λV=>
Qa V (
C Zai [t 9] g n λW X Y=>
C Zaj [t 9,P] X Y λX Y Z=>
JaK C K (puts t [(98,t 9),(99,B),(100,(ptr E (F+0))),(101,(ptr E (F+0+14))),(102,H),(103,I),(108,t 9),(109,J),(110,(ptr M (O+0))),(111,(ptr M (O+0+13))),(112,P),(10,P),(113,t 9),(114,Q),(115,(ptr R (T+0))),(116,(ptr R (T+0+12))),(117,U),(119,V),(118,V),(120,t 9),(121,W),(122,t 9),(123,P),(124,X)]) Y Z) (
Jb .int .eql U (.int .i64 2) λW=>
Qa W (
C Zai [t 9] g n λX Y Z=>
C Qad [t 9,P,.int .i64 10] Y Z λY Z j=>
JaK C K (puts t [(98,t 9),(99,B),(100,(ptr E (F+0))),(101,(ptr E (F+0+14))),(102,H),(103,I),(108,t 9),(109,J),(110,(ptr M (O+0))),(111,(ptr M (O+0+13))),(112,P),(10,P),(113,t 9),(114,Q),(115,(ptr R (T+0))),(116,(ptr R (T+0+12))),(117,U),(119,V),(118,V),(126,W),(125,W),(127,t 9),(128,X),(129,t 9),(130,P),(131,Y)]) Z j) (
JaK C K (puts t [(98,t 9),(99,B),(100,(ptr E (F+0))),(101,(ptr E (F+0+14))),(102,H),(103,I),(108,t 9),(109,J),(110,(ptr M (O+0))),(111,(ptr M (O+0+13))),(112,P),(10,P),(113,t 9),(114,Q),(115,(ptr R (T+0))),(116,(ptr R (T+0+12))),(117,U),(119,V),(118,V),(126,W),(125,W)]) g n)))
def Ja9 (C:CT) (K:Cont) (t:Env) (g:G) (n:Nat):Prop:=
Xf (t 9) λB=>
Xc B λE F=>
kLd g E (F+0+11) λH=>
C Jv [t 1] g n λI J M=>
(Xc (ptr E (F+0+11)) λl _=>J l=g l)∧Jb .int .andNot H I λO=>
Xf (t 9) λP=>
Xc P λQ R=>
kSt J Q (R+0+11) O λJ=>
Xc (t 5) λT U=>
kLd J T (U+3) λV=>
Qa V (
Xf (t 9) λW=>
Xc W λX Y=>
kLd J X (Y+0+11) λZ=>
C Jv [t 1] J M λj w AA=>
(Xc (ptr X (Y+0+11)) λl _=>w l=J l)∧Jb .int .or Z j λAB=>
Xf (t 9) λAD=>
Xc AD λAE AF=>
kSt w AE (AF+0+11) AB λw=>
Zba C K (puts t [(74,t 9),(75,B),(76,(ptr E (F+0))),(77,(ptr E (F+0+11))),(78,H),(79,t 1),(80,I),(81,O),(82,P),(83,(ptr Q (R+0))),(84,(ptr Q (R+0+11))),(85,(ptr T (U+3))),(86,V),(87,t 9),(88,W),(89,(ptr X (Y+0))),(90,(ptr X (Y+0+11))),(91,Z),(92,t 1),(93,j),(94,AB),(95,AD),(96,(ptr AE (AF+0))),(97,(ptr AE (AF+0+11)))]) w AA) (
Zba C K (puts t [(74,t 9),(75,B),(76,(ptr E (F+0))),(77,(ptr E (F+0+11))),(78,H),(79,t 1),(80,I),(81,O),(82,P),(83,(ptr Q (R+0))),(84,(ptr Q (R+0+11))),(85,(ptr T (U+3))),(86,V)]) J M)
def QdZ (C:CT) (B E F:Value) (g:G) (n:Nat) (K:Cont):Prop:=
Jj B λc3=>
Zl c3 .exact g n λl3 H n3=>
Jj F λc5=>
Zl c5 .exact H n3 λl5 H n5=>
Zl [.bool false,.bool false,.int .u64 0,.int .u64 0,.int .u64 0,.int .u64 0,.int .u64 0,.int .u64 0,.int .u64 0,.int .u64 0,.int .i64 0,.int .u8 0,.int .i64 0,.int .i64 0,.int .u8 0] .exact H n5 λl6 H I=>
Ql H l3 0 15 λJ=>
C Xbd [.agg J.toArray] H I λH I M=>
kUn .not H λO=>
Qa O (
Qf [.bool false,.bool false,.int .u64 0,.int .u64 0,.int .u64 0,.int .u64 0,.int .u64 0,.int .u64 0,.int .u64 0,.int .u64 0,.int .i64 0,.int .u8 0,.int .i64 0,.int .i64 0,.int .u8 0] [] λP=>
Jj (.agg P.toArray) λQ=>
Q.length=15∧Qu I l6 0 Q λQ=>
Ql Q l6 0 15 λr0=>
Zc K (.tuple #[.agg r0.toArray,.slice none 0 0,.int .i64 1]) Q M) (
C QaW [E] I M λI M Q=>
kUn .not I λR=>
Qa R (
Qf [.bool false,.bool false,.int .u64 0,.int .u64 0,.int .u64 0,.int .u64 0,.int .u64 0,.int .u64 0,.int .u64 0,.int .u64 0,.int .i64 0,.int .u8 0,.int .i64 0,.int .i64 0,.int .u8 0] [] λP=>
Jj (.agg P.toArray) λT=>
T.length=15∧Qu M l6 0 T λT=>
Ql T l6 0 15 λr0=>
Zc K (.tuple #[.agg r0.toArray,.slice none 0 0,.int .i64 1]) T Q) (
Ql M l5 0 12 λT=>
C ZaT [.agg T.toArray] M Q λM Q U=>
kUn .not M λV=>
Qa V (
Qf [.bool false,.bool false,.int .u64 0,.int .u64 0,.int .u64 0,.int .u64 0,.int .u64 0,.int .u64 0,.int .u64 0,.int .u64 0,.int .i64 0,.int .u8 0,.int .i64 0,.int .i64 0,.int .u8 0] [] λP=>
Jj (.agg P.toArray) λW=>
W.length=15∧Qu Q l6 0 W λW=>
Ql W l6 0 15 λr0=>
Zc K (.tuple #[.agg r0.toArray,.slice none 0 0,.int .i64 1]) W U) (
kLd Q l5 (0+0) λW=>
C Zbv [W] Q U λQ U X=>
kUn .not Q λY=>
Qa Y (
Qf [.bool false,.bool false,.int .u64 0,.int .u64 0,.int .u64 0,.int .u64 0,.int .u64 0,.int .u64 0,.int .u64 0,.int .u64 0,.int .i64 0,.int .u8 0,.int .i64 0,.int .i64 0,.int .u8 0] [] λP=>
Jj (.agg P.toArray) λP=>
P.length=15∧Qu U l6 0 P λP=>
Ql P l6 0 15 λr0=>
Zc K (.tuple #[.agg r0.toArray,.slice none 0 0,.int .i64 1]) P X) (
kLd U l3 (0+12) λP=>
Jb .int .eql P (.int .i64 0) λZ=>
Qa Z (
Qf [.bool false,.bool false,.int .u64 0,.int .u64 0,.int .u64 0,.int .u64 0,.int .u64 0,.int .u64 0,.int .u64 0,.int .u64 0,.int .i64 0,.int .u8 0,.int .i64 0,.int .i64 0,.int .u8 0] [] λj=>
Jj (.agg j.toArray) λt=>
t.length=15∧Qu U l6 0 t λt=>
Ql t l6 0 15 λr0=>
Zc K (.tuple #[.agg r0.toArray,.slice none 0 0,.int .i64 16]) t X) (
kLd U l3 (0+14) λt=>
C QbT [t,E] U X λU X w=>
kUn .not U λAA=>
Qa AA (
Qf [.bool false,.bool false,.int .u64 0,.int .u64 0,.int .u64 0,.int .u64 0,.int .u64 0,.int .u64 0,.int .u64 0,.int .u64 0,.int .i64 0,.int .u8 0,.int .i64 0,.int .i64 0,.int .u8 0] [] λj=>
Jj (.agg j.toArray) λj=>
j.length=15∧Qu X l6 0 j λj=>
Ql j l6 0 15 λr0=>
Zc K (.tuple #[.agg r0.toArray,.slice none 0 0,.int .i64 16]) j w) (
Ql X l3 0 15 λj=>
kLd X l5 (0+1) λAB=>
Qf [.bool false,.bool false,.int .u64 0,.int .u64 0,.int .u64 0,.int .u64 0,.int .u64 0,.int .u64 0,.int .u64 0,.int .u64 0,.int .i64 0,.int .u8 0,.int .i64 0,.int .i64 0,.int .u8 0,.int .i64 0,.slice none 0 0] [(0,some 15,.agg j.toArray),(15,none,AB)] λAD=>
Jj (.agg AD.toArray) λAE=>
Zl AE .exact X w λX w AE=>
kLd w X (0+0+14) λAF=>
C Jv [E] w AE λAE AG AH=>
(Xc (ptr X (0+0+14)) λl _=>AG l=w l)∧Jb .int .andNot AF AE λw=>
kSt AG X (0+0+14) w λAG=>
Ql AG l5 0 12 λAI=>
C ZaC [ptr X 0,.agg AI.toArray] AG AH λAG AH AJ=>
kLd AH X (0+0+10) λAL=>
Jb .int .eql AL E λAM=>
Qa AM (
kSt AH X (0+0+10) (.int .i64 (-1)) λAN=>
Ja9 C K (puts (Qi [B,E,F]) [(3,ptr l3 0),(5,ptr l5 0),(6,ptr l6 0),(7,.slice none 0 0),(8,.int .i64 0),(12,.agg J.toArray),(13,H),(14,O),(15,.bool false),(16,E),(17,I),(18,R),(19,R),(20,.bool false),(21,.agg T.toArray),(22,M),(23,V),(24,V),(25,.bool false),(26,(ptr l5 (0+0))),(27,W),(28,Q),(29,Y),(30,Y),(11,Y),(33,(ptr l3 (0+12))),(34,P),(35,Z),(36,.bool false),(37,(ptr l3 (0+14))),(38,t),(39,E),(40,U),(41,AA),(42,AA),(32,AA),(44,.agg j.toArray),(45,(ptr l5 (0+1))),(46,AB),(47,.agg AD.toArray),(48,ptr X 0),(9,ptr X 0),(49,ptr X 0),(50,ptr X 0),(51,(ptr X (0+0))),(52,(ptr X (0+0+14))),(53,AF),(54,E),(55,AE),(56,w),(57,ptr X 0),(58,(ptr X (0+0))),(59,(ptr X (0+0+14))),(60,ptr X 0),(61,.agg AI.toArray),(62,AG),(63,ptr X 0),(64,ptr X 0),(65,(ptr X (0+0))),(66,(ptr X (0+0+10))),(67,AL),(68,E),(69,AM),(70,ptr X 0),(71,ptr X 0),(72,(ptr X (0+0))),(73,(ptr X (0+0+10)))]) AN AJ) (
Ja9 C K (puts (Qi [B,E,F]) [(3,ptr l3 0),(5,ptr l5 0),(6,ptr l6 0),(7,.slice none 0 0),(8,.int .i64 0),(12,.agg J.toArray),(13,H),(14,O),(15,.bool false),(16,E),(17,I),(18,R),(19,R),(20,.bool false),(21,.agg T.toArray),(22,M),(23,V),(24,V),(25,.bool false),(26,(ptr l5 (0+0))),(27,W),(28,Q),(29,Y),(30,Y),(11,Y),(33,(ptr l3 (0+12))),(34,P),(35,Z),(36,.bool false),(37,(ptr l3 (0+14))),(38,t),(39,E),(40,U),(41,AA),(42,AA),(32,AA),(44,.agg j.toArray),(45,(ptr l5 (0+1))),(46,AB),(47,.agg AD.toArray),(48,ptr X 0),(9,ptr X 0),(49,ptr X 0),(50,ptr X 0),(51,(ptr X (0+0))),(52,(ptr X (0+0+14))),(53,AF),(54,E),(55,AE),(56,w),(57,ptr X 0),(58,(ptr X (0+0))),(59,(ptr X (0+0+14))),(60,ptr X 0),(61,.agg AI.toArray),(62,AG),(63,ptr X 0),(64,ptr X 0),(65,(ptr X (0+0))),(66,(ptr X (0+0+10))),(67,AL),(68,E),(69,AM)]) AH AJ)))))))
theorem Zel (C:CT) (j I E:Value) (g:G) (n:Nat) (K:Cont):QdZ C j I E g n K=Qe Tryz.prog C Xba [j,I,E] g n K:=by kernel_rfl
def Qdb (C:CT) (B E F:Value) (g:G) (n:Nat) (K:Cont):Prop:=
Jb .int .geq B E λE=>
Qa E (
Jb .int .leq B F λB=>
Zc K B g n) (
Zc K (.bool false) g n)
theorem Xdz (C:CT) (j I E:Value) (g:G) (n:Nat) (K:Cont):Qdb C j I E g n K=Qe Tryz.prog C Zg [j,I,E] g n K:=by kernel_rfl
def JeA (C:CT) (B E:Value) (g:G) (n:Nat) (K:Cont):Prop:=
C Xcd [B,E] g n λB E F=>
Qc B 0 λH=>
Qc B 1 λB=>
Jb .int .neq B (.int .i64 0) λI=>
Qa I (
Zc K (.tuple #[.pointer none,B]) E F) (
Qf [.pointer none] [(0,none,H)] λB=>
Jj (.agg B.toArray) λB=>
Zl B .exact E F λB E F=>
Zc K (.tuple #[ptr B 0,.int .i64 0]) E F)
theorem ZeE (C:CT) (j E:Value) (g:G) (n:Nat) (K:Cont):JeA C j E g n K=Qe Tryz.prog C Qcd [j,E] g n K:=by kernel_rfl
def Xa2 (C:CT) (B E:Value) (g:G) (n:Nat) (K:Cont):Prop:=
Xf B λB=>
Xc B λl7 B=>
C ZbN [(ptr l7 (B+0)),E] g n λB E F=>
Zc K B E F
theorem ZbC (C:CT) (j E:Value) (g:G) (n:Nat) (K:Cont):Xa2 C j E g n K=Qe Tryz.prog C ZD [j,E] g n K:=by kernel_rfl
def Zfv (C:CT) (B E:Value) (g:G) (n:Nat) (K:Cont):Prop:=
Jb .int .geq B (.int .i64 0) λF=>
Qa F (
Jb .int .lss B (.int .i64 64) λB=>
Qa B (
Jb .int .geq E (.int .i64 0) λB=>
Qa B (
Jb .int .lss E (.int .i64 8) λB=>
Zc K B g n) (
Zc K (.bool false) g n)) (
Zc K (.bool false) g n)) (
Zc K (.bool false) g n)
theorem Xfj (C:CT) (j E:Value) (g:G) (n:Nat) (K:Cont):Zfv C j E g n K=Qe Tryz.prog C Jbc [j,E] g n K:=by kernel_rfl
def ZbW (C:CT) (B E:Value) (g:G) (n:Nat) (K:Cont):Prop:=
Zl [.int .i64 0,.int .i64 0,.int .u64 0,.int .u64 0,.int .u64 0,.int .u64 0,.int .u64 0,.int .u64 0,.int .u64 0,.int .u64 0,.int .i64 0] .exact g n λl4 F H=>
Xf B λB=>
Xc B λB I=>
kLd F B (I+0) λB=>
C QaG [B,E] F H λB E F=>
Qc B 0 λH=>
Qc B 1 λB=>
Zl [.int .i64 0,.int .i64 0,.int .u64 0,.int .u64 0,.int .u64 0,.int .u64 0,.int .u64 0,.int .u64 0,.int .u64 0,.int .u64 0,.int .i64 0] .exact E F λl5 B n5=>
Jj H λE=>
E.length=11∧Qu B l5 0 E λB=>
Ql B l5 0 11 λE=>
Jj (.agg E.toArray) λE=>
E.length=11∧Qu B l4 0 E λB=>
Ql B l4 0 11 λr0=>
Zc K (.agg r0.toArray) B n5
theorem XcG (C:CT) (j E:Value) (g:G) (n:Nat) (K:Cont):ZbW C j E g n K=Qe Tryz.prog C Qr [j,E] g n K:=by kernel_rfl
def Jbw (C:CT) (B E:Value) (g:G) (n:Nat) (K:Cont):Prop:=
C JW [B,E] g n λF H I=>
Jb .int .geq F (.int .i64 0) λJ=>
Qa J (
C ZB [B,E] H I λE J M=>
C J4 [B] J M λB J M=>
Jd E F 11 λE=>
Xc E λE F=>
kSt J E (F+10) B λB=>
Zc K (.tuple #[]) B M) (
Zc K (.tuple #[]) H I)
theorem Zct (C:CT) (j E:Value) (g:G) (n:Nat) (K:Cont):Jbw C j E g n K=Qe Tryz.prog C Jav [j,E] g n K:=by kernel_rfl
def X5 (C:CT) (K:Cont) (t:Env) (g:G) (n:Nat):Prop:=
Xf (t 0) λB=>
Xc B λB E=>
kLd g B (E+0) λB=>
Xc (t 9) λE F=>
Ql g E F 8 λE=>
C QN [B,t 1,t 2,.agg E.toArray] g n λB B E=>
Qf [.int .i64 0,.int .i64 0,.bool false,.bool false,.int .u64 0,.int .u64 0,.int .u64 0,.int .u64 0,.int .u64 0,.int .u64 0,.int .u64 0,.int .u64 0] [(0,none,t 3),(1,none,t 1)] λF=>
Qf (reps 1 [.int .i64 0,.int .i64 0,.bool false,.bool false,.int .u64 0,.int .u64 0,.int .u64 0,.int .u64 0,.int .u64 0,.int .u64 0,.int .u64 0,.int .u64 0]) [(0,some 12,.agg F.toArray)] λF=>
Zl F .exact B E λB E F=>
Zc K (.slice (some ⟨B,0,none⟩) 1 1) E F
def Jb9 (C:CT) (B E F H I:Value) (g:G) (n:Nat) (K:Cont):Prop:=
Jj I λJ=>
Zl J .exact g n λJ M O=>
C Xae [B] M O λM O P=>
kUn .not M λQ=>
Qa Q (
Zc K (.slice none 0 0) O P) (
Jb .int .neq F (.int .i64 6) λR=>
Qa R (
Xf B λT=>
Xc T λU V=>
kLd O U (V+0) λW=>
C ZaH [W,E] O P λX Y Z=>
Qc X 0 λj=>
Qc X 1 λt=>
kUn .not j λw=>
Qa w (
Jb .int .lss t (.int .i64 0) λAA=>
Qa AA (
Zc K (.slice none 0 0) Y Z) (
kUn .not j λAB=>
Qa AB (
C Qr [B,t] Y Z λAD AE AF=>
C Q5 [B,AD] AE AF λAE AG AH=>
Zc K AE AG AH) (
X5 C K (puts (Qi [B,E,F,H,I]) [(9,ptr J 0),(10,.slice none 0 0),(13,B),(14,M),(15,Q),(16,F),(17,R),(19,B),(20,T),(21,(ptr U (V+0))),(22,W),(23,E),(24,X),(18,X),(25,j),(26,t),(11,j),(12,t),(28,j),(29,w),(30,.bool true),(31,t),(32,AA),(33,AA),(27,AA),(35,j),(36,AB),(34,AB)]) Y Z))) (
kUn .not j λAB=>
Qa AB (
C Qr [B,t] Y Z λAD AA AF=>
C Q5 [B,AD] AA AF λAE AA AH=>
Zc K AE AA AH) (
X5 C K (puts (Qi [B,E,F,H,I]) [(9,ptr J 0),(10,.slice none 0 0),(13,B),(14,M),(15,Q),(16,F),(17,R),(19,B),(20,T),(21,(ptr U (V+0))),(22,W),(23,E),(24,X),(18,X),(25,j),(26,t),(11,j),(12,t),(28,j),(29,w),(30,.bool false),(31,undef),(32,undef),(33,.bool false),(27,.bool false),(35,j),(36,AB),(34,AB)]) Y Z))) (
X5 C K (puts (Qi [B,E,F,H,I]) [(9,ptr J 0),(10,.slice none 0 0),(13,B),(14,M),(15,Q),(16,F),(17,R)]) O P))
theorem XcT (C:CT) (j I E O J:Value) (g:G) (n:Nat) (K:Cont):Jb9 C j I E O J g n K=Qe Tryz.prog C X6 [j,I,E,O,J] g n K:=by kernel_rfl
def XeM (C:CT) (B:Value) (g:G) (n:Nat) (K:Cont):Prop:=
Jj B λc1=>
Zl c1 .exact g n λl1 B n1=>
Ql B l1 0 15 λc3=>
C Xbd [.agg c3.toArray] B n1 λB E F=>
Qa B (
kLd E l1 (0+12) λB=>
Jb .int .eql B (.int .i64 4) λB=>
Qa B (
kLd E l1 (0+14) λB=>
Jb .int .eql B (.int .u8 0) λH=>
Zc K H E F) (
kLd E l1 (0+12) λI=>
Jb .int .eql I (.int .i64 5) λI=>
Qa I (
kLd E l1 (0+14) λB=>
Jb .int .eql B (.int .u8 0) λH=>
Zc K H E F) (
Zc K (.bool false) E F))) (
Zc K (.bool false) E F)
theorem JeD (C:CT) (j:Value) (g:G) (n:Nat) (K:Cont):XeM C j g n K=Qe Tryz.prog C Qbl [j] g n K:=by kernel_rfl
def Qd6 (C:CT) (B:Value) (g:G) (n:Nat) (K:Cont):Prop:=
Jj B λc1=>
Zl c1 .exact g n λl1 B n1=>
Zl [.bool false,.bool false,.int .u64 0,.int .u64 0,.int .u64 0,.int .u64 0,.int .u64 0,.int .u64 0,.int .u64 0,.int .u64 0,.int .i64 0,.int .u8 0,.int .i64 0,.int .i64 0,.int .u8 0] .exact B n1 λl2 B n2=>
Ql B l1 0 15 λc7=>
C Qbl [.agg c7.toArray] B n2 λB E F=>
kUn .not B λB=>
Qa B (
Qf [.bool false,.bool false,.int .u64 0,.int .u64 0,.int .u64 0,.int .u64 0,.int .u64 0,.int .u64 0,.int .u64 0,.int .u64 0,.int .i64 0,.int .u8 0,.int .i64 0,.int .i64 0,.int .u8 0] [] λB=>
Jj (.agg B.toArray) λB=>
B.length=15∧Qu E l2 0 B λB=>
Ql B l2 0 15 λr0=>
Zc K (.tuple #[.agg r0.toArray,.slice none 0 0,.int .i64 16]) B F) (
Ql E l1 0 15 λB=>
Qf [.bool false,.bool false,.int .u64 0,.int .u64 0,.int .u64 0,.int .u64 0,.int .u64 0,.int .u64 0,.int .u64 0,.int .u64 0,.int .i64 0,.int .u8 0,.int .i64 0,.int .i64 0,.int .u8 0,.int .i64 0,.slice none 0 0] [(0,some 15,.agg B.toArray)] λB=>
Jj (.agg B.toArray) λB=>
Zl B .exact E F λB E F=>
kSt E B (0+0+1) (.bool false) λE=>
kLd E l1 (0+13) λH=>
C Zai [ptr B 0] E F λE E F=>
C ZQ [ptr B 0,H,.int .i64 14] E F λE E F=>
Ql E B (0+0) 15 λH=>
kLd E B (0+16) λI=>
Jj (.agg H.toArray) λH=>
H.length=15∧Qu E l2 0 H λH=>
(Xc (ptr B (0+16)) λl _=>H l=E l)∧Ql H l2 0 15 λr0=>
Zc K (.tuple #[.agg r0.toArray,I,.int .i64 0]) H F)
theorem Zed (C:CT) (j:Value) (g:G) (n:Nat) (K:Cont):Qd6 C j g n K=Qe Tryz.prog C XbN [j] g n K:=by kernel_rfl
def ZG (C:CT) (K:Cont) (t:Env) (g:G) (n:Nat):Prop:=
Xf (t 0) λB=>
Xc B λB E=>
kLd g B (E+2) λB=>
Jb .int .add (t 5) (t 6) λE=>
Xx B (some E) none none 9 λB=>
Xaz B [.int .i64 0,.int .u64 0,.int .u64 0,.int .u64 0,.int .u64 0,.int .u64 0,.int .u64 0,.int .u64 0,.int .u64 0] g λv_ B=>
Xf (t 0) λE=>
Xc E λE F=>
kLd B E (F+2) λE=>
Jb .int .add (t 5) (t 6) λF=>
Xx E none (some F) none 9 λE=>
Xf (t 0) λF=>
Xc F λF H=>
kSt B F (H+2) E λB=>
Zc K (.int .i64 0) B n
def ZR (C:CT) (K:Cont) (J:Qk) (t:Env) (g:G) (n:Nat):Prop:=
Xf (t 0) λB=>
Xc B λE F=>
kLd g E (F+2) λH=>
Xx H (some (t 5)) none none 9 λI=>
Xf (t 0) λM=>
Xc M λO P=>
kLd g O (P+2) λQ=>
Jb .int .add (t 5) (.int .i64 1) λR=>
Xx Q (some R) none none 9 λT=>
Jcg I T 9 g λU V=>
J (puts t [(31,t 0),(32,B),(33,(ptr E (F+2))),(34,H),(35,t 5),(36,I),(37,t 0),(38,M),(39,(ptr O (P+2))),(40,Q),(41,t 5),(42,R),(43,T),(44,U),(6,U)]) V n
def QaU (C:CT) (B E:Value) (J:Qk) (g:G) (n:Nat) (K:Cont):Prop:=
isCell E=true∧Zl [E] .exact g n λl3 F n3=>
Jb .ptr .eql B (.pointer none) λH=>
Qa H (
Zc K (.int .i64 1) F n3) (
Xf B λI=>
Xc I λM O=>
kLd F M (O+2) λP=>
C Qx [P,(.func (.func ZA) #[] #[ptr l3 0])] F n3 λF Q R=>
Jb .int .lss F (.int .i64 0) λT=>
Qa T (
Zc K (.int .i64 14) Q R) (
Xf B λU=>
Xc U λV W=>
kLd Q V (W+0) λX=>
kLd Q l3 0 λY=>
Xf B λZ=>
Xc Z λj t=>
kLd Q j (t+2) λw=>
Jd w F 9 λAA=>
Xc AA λAB AD=>
Ql Q AB (AD+1) 8 λAE=>
C Jae [X,Y,.agg AE.toArray] Q R λQ R AF=>
J (puts (Qi [B,E]) [(3,ptr l3 0),(4,.int .i64 0),(7,B),(8,H),(9,B),(10,I),(11,(ptr M (O+2))),(12,P),(13,(.func (.func ZA) #[] #[ptr l3 0])),(14,F),(5,F),(15,F),(16,T),(17,B),(18,U),(19,(ptr V (W+0))),(20,X),(21,Y),(22,B),(23,Z),(24,(ptr j (t+2))),(25,w),(26,F),(27,AA),(28,(ptr AB (AD+1))),(29,.agg AE.toArray),(30,Q)]) R AF))
def Xbc (C:CT) (B E:Value) (g:G) (n:Nat) (K:Cont):Prop:=QaU C B E (ZR C K (ZG C K)) g n K
theorem QbE (C:CT) (t:Env) (g:G) (n:Nat) (K:Cont):ZG C K t g n=Jag Tryz.prog C [1,1,1,1,1,1] Zt K t g n:=by kernel_rfl
theorem JbQ (C:CT) (K:Cont):ZG C K=Jag Tryz.prog C [1,1,1,1,1,1] Zt K:=funext λt=>funext λg=>funext λn=>QbE C t g n K
theorem XbH (C:CT) (J:Qk) (t:Env) (g:G) (n:Nat) (K:Cont):ZR C K J t g n=Qbb Tryz.prog C [1,1,1,1,1] [1] J Zt K t g n:=by kernel_rfl
theorem XbS (C:CT) (K:Cont):ZR C K (ZG C K)=Jag Tryz.prog C [1,1,1,1,1] Zt K:=by
 rw [JbQ]
 exact (funext λt=>funext λg=>funext λn=>XbH C _ t g n K).trans (Za9 Tryz.prog C [1,1,1,1,1] [1] Zt K)
theorem ZbT (C:CT) (j E:Value) (J:Qk) (g:G) (n:Nat) (K:Cont):QaU C j E J g n K=ZbP Tryz.prog C [1,1,1,1,1] J Zt [j,E] g n K:=by kernel_rfl
theorem QcV (C:CT) (j E:Value) (g:G) (n:Nat) (K:Cont):Xbc C j E g n K=Qe Tryz.prog C Zt [j,E] g n K:=by
 unfold Xbc
 rw [ZbT,XbS]
 exact Xbe Tryz.prog C [1,1,1,1,1] Zt [j,E] g n K
def XaF (C:CT) (K:Cont) (t:Env) (g:G) (n:Nat):Prop:=
Xc (t 1) λB E=>
kLd g B (E+2) λB=>
Qa B (
Zc K (.bool true) g n) (
Jb .int .and (t 3) (.int .i64 4) λB=>
Jb .int .neq B (.int .i64 0) λB=>
Qa B (
Zc K (.bool true) g n) (
Xc (t 1) λB E=>
Ql g B (E+4) 8 λB=>
Qf [.int .u64 0,.int .u64 0,.int .u64 0,.int .u64 0,.int .u64 0,.int .u64 0,.int .u64 0,.int .u64 0] [] λE=>
Jb (.agg [.i,.i,.i,.i,.i,.i,.i,.i]) .eql (.agg B.toArray) (.agg E.toArray) λB=>
Zc K B g n))
def Jfu (C:CT) (B:Value) (g:G) (n:Nat) (K:Cont):Prop:=
Jj B λc1=>
Zl c1 .exact g n λl1 E n1=>
kLd E l1 (0+0) λF=>
Jb .int .lss F (.int .i64 1) λH=>
Qa H (
Zc K (.bool false) E n1) (
kLd E l1 (0+0) λI=>
Jb .int .gtr I (.int .i64 14) λJ=>
Qa J (
Zc K (.bool false) E n1) (
kLd E l1 (0+1) λM=>
Jb .int .lss M (.int .i64 0) λO=>
Qa O (
Zc K (.bool false) E n1) (
kLd E l1 (0+1) λP=>
Jb .int .geq P (.int .i64 64) λQ=>
Qa Q (
Zc K (.bool false) E n1) (
kLd E l1 (0+0) λR=>
C Zec [] E n1 λT U V=>
(Xc (ptr l1 (0+0)) λl _=>U l=E l)∧JdY T R 15 1 none λE=>
kLd U l1 (0+2) λW=>
Qa W (
Jb .int .and E (.int .i64 1) λX=>
Jb .int .eql X (.int .i64 0) λY=>
Qa Y (
Qa Y (
Zc K (.bool false) U V) (
XaF C K (puts (Qi [B]) [(1,ptr l1 0),(2,.bool false),(4,(ptr l1 (0+0))),(5,F),(6,H),(7,.bool false),(8,(ptr l1 (0+0))),(9,I),(10,J),(11,J),(12,.bool false),(13,(ptr l1 (0+1))),(14,M),(15,O),(16,O),(17,.bool false),(18,(ptr l1 (0+1))),(19,P),(20,Q),(21,Q),(23,(ptr l1 (0+0))),(24,R),(22,T),(25,E),(3,E),(27,(ptr l1 (0+2))),(28,W),(29,.bool true),(30,E),(31,X),(32,Y),(33,Y),(26,Y)]) U V)) (
kLd U l1 (0+3) λZ=>
Qa Z (
Jb .int .and E (.int .i64 2) λj=>
Jb .int .eql j (.int .i64 0) λt=>
Qa t (
Zc K (.bool false) U V) (
XaF C K (puts (Qi [B]) [(1,ptr l1 0),(2,.bool false),(4,(ptr l1 (0+0))),(5,F),(6,H),(7,.bool false),(8,(ptr l1 (0+0))),(9,I),(10,J),(11,J),(12,.bool false),(13,(ptr l1 (0+1))),(14,M),(15,O),(16,O),(17,.bool false),(18,(ptr l1 (0+1))),(19,P),(20,Q),(21,Q),(23,(ptr l1 (0+0))),(24,R),(22,T),(25,E),(3,E),(27,(ptr l1 (0+2))),(28,W),(29,.bool true),(30,E),(31,X),(32,Y),(33,Y),(26,Y),(34,(ptr l1 (0+3))),(35,Z),(36,.bool true),(37,E),(38,j),(39,t),(40,t),(26,t)]) U V)) (
XaF C K (puts (Qi [B]) [(1,ptr l1 0),(2,.bool false),(4,(ptr l1 (0+0))),(5,F),(6,H),(7,.bool false),(8,(ptr l1 (0+0))),(9,I),(10,J),(11,J),(12,.bool false),(13,(ptr l1 (0+1))),(14,M),(15,O),(16,O),(17,.bool false),(18,(ptr l1 (0+1))),(19,P),(20,Q),(21,Q),(23,(ptr l1 (0+0))),(24,R),(22,T),(25,E),(3,E),(27,(ptr l1 (0+2))),(28,W),(29,.bool true),(30,E),(31,X),(32,Y),(33,Y),(26,Y),(34,(ptr l1 (0+3))),(35,Z),(36,.bool false),(37,undef),(38,undef),(39,undef),(40,.bool false),(26,.bool false)]) U V))) (
kLd U l1 (0+3) λZ=>
Qa Z (
Jb .int .and E (.int .i64 2) λj=>
Jb .int .eql j (.int .i64 0) λt=>
Qa t (
Zc K (.bool false) U V) (
XaF C K (puts (Qi [B]) [(1,ptr l1 0),(2,.bool false),(4,(ptr l1 (0+0))),(5,F),(6,H),(7,.bool false),(8,(ptr l1 (0+0))),(9,I),(10,J),(11,J),(12,.bool false),(13,(ptr l1 (0+1))),(14,M),(15,O),(16,O),(17,.bool false),(18,(ptr l1 (0+1))),(19,P),(20,Q),(21,Q),(23,(ptr l1 (0+0))),(24,R),(22,T),(25,E),(3,E),(27,(ptr l1 (0+2))),(28,W),(29,.bool false),(30,undef),(31,undef),(32,undef),(33,.bool false),(26,.bool false),(34,(ptr l1 (0+3))),(35,Z),(36,.bool true),(37,E),(38,j),(39,t),(40,t),(26,t)]) U V)) (
XaF C K (puts (Qi [B]) [(1,ptr l1 0),(2,.bool false),(4,(ptr l1 (0+0))),(5,F),(6,H),(7,.bool false),(8,(ptr l1 (0+0))),(9,I),(10,J),(11,J),(12,.bool false),(13,(ptr l1 (0+1))),(14,M),(15,O),(16,O),(17,.bool false),(18,(ptr l1 (0+1))),(19,P),(20,Q),(21,Q),(23,(ptr l1 (0+0))),(24,R),(22,T),(25,E),(3,E),(27,(ptr l1 (0+2))),(28,W),(29,.bool false),(30,undef),(31,undef),(32,undef),(33,.bool false),(26,.bool false),(34,(ptr l1 (0+3))),(35,Z),(36,.bool false),(37,undef),(38,undef),(39,undef),(40,.bool false),(26,.bool false)]) U V))))))
theorem JeX (C:CT) (j:Value) (g:G) (n:Nat) (K:Cont):Jfu C j g n K=Qe Tryz.prog C ZaT [j] g n K:=by kernel_rfl
def Qb1 (C:CT) (B:Value) (g:G) (n:Nat) (K:Cont):Prop:=
Jb .ptr .eql B (.pointer none) λE=>
Qa E (
Zc K (.slice none 0 0) g n) (
Xf B λB=>
Xc B λl7 B=>
kLd g l7 (B+0) λB=>
C ZE [B] g n λB E F=>
Zc K B E F)
theorem JcG (C:CT) (j:Value) (g:G) (n:Nat) (K:Cont):Qb1 C j g n K=Qe Tryz.prog C XaH [j] g n K:=by kernel_rfl
def JI (C:CT) (K:Cont) (t:Env) (g:G) (n:Nat):Prop:=
Xf (t 0) λB=>
Xc B λB E=>
kSt g B (E+2) (t 9) λB=>
Zc K (.int .i64 0) B n
def XZ (C:CT) (K:Cont) (J:Qk) (t:Env) (g:G) (n:Nat):Prop:=
Xf (t 0) λB=>
Xc B λE F=>
kLd g E (F+2) λH=>
Jak H λI=>
Jb .int .add I (.int .i64 1) λM=>
Zcr M M [.int .i64 0,.int .u64 0,.int .u64 0,.int .u64 0,.int .u64 0,.int .u64 0,.int .u64 0,.int .u64 0,.int .u64 0] 72 g n λO P Q=>
Xf (t 0) λR=>
Xc R λT U=>
kLd P T (U+2) λV=>
Jcg O V 9 P λP W=>
Xf (t 0) λX=>
Xc X λY Z=>
kLd W Y (Z+2) λj=>
Jak j λw=>
Xc (t 5) λAA AB=>
Ql W AA AB 8 λAA=>
Qf [.int .i64 0,.int .u64 0,.int .u64 0,.int .u64 0,.int .u64 0,.int .u64 0,.int .u64 0,.int .u64 0,.int .u64 0] [(0,none,t 1),(1,some 8,.agg AA.toArray)] λAB=>
Jd O w 9 λAD=>
Xc AD λAE AF=>
Jj (.agg AB.toArray) λAG=>
AG.length=9∧Qu W AE AF AG λW=>
J (puts t [(34,t 0),(35,B),(36,(ptr E (F+2))),(37,H),(38,I),(39,M),(40,O),(9,O),(41,O),(42,t 0),(43,R),(44,(ptr T (U+2))),(45,V),(46,P),(47,O),(48,t 0),(49,X),(50,(ptr Y (Z+2))),(51,j),(52,w),(53,t 1),(54,.agg AA.toArray),(55,.agg AB.toArray),(56,AD)]) W Q
def Ja3 (C:CT) (B E F:Value) (J:Qk) (g:G) (n:Nat) (K:Cont):Prop:=
Jj F λc5=>
Zl c5 .exact g n λl5 H n5=>
Jb .ptr .eql B (.pointer none) λI=>
Qa I (
Zc K (.int .i64 1) H n5) (
Xf B λM=>
Xc M λO P=>
kLd H O (P+0) λQ=>
C QaM [Q,E] H n5 λH R T=>
Qc H 0 λU=>
Qc H 1 λV=>
Zl [.int .u64 0,.int .u64 0,.int .u64 0,.int .u64 0,.int .u64 0,.int .u64 0,.int .u64 0,.int .u64 0] .exact R T λl7 R T=>
Jj U λW=>
W.length=8∧Qu R l7 0 W λR=>
Jb .int .neq V (.int .i64 0) λW=>
Qa W (
Zc K V R T) (
Xf B λX=>
Xc X λY Z=>
kLd R Y (Z+2) λj=>
Jak j λt=>
Xf B λw=>
Xc w λAA AB=>
kLd R AA (AB+1) λAD=>
Jb .int .geq t AD λAE=>
Qa AE (
Zc K (.int .i64 13) R T) (
J (puts (Qi [B,E,F]) [(5,ptr l5 0),(6,.int .i64 0),(10,B),(11,I),(13,B),(14,M),(15,(ptr O (P+0))),(16,Q),(17,E),(18,H),(12,H),(19,U),(20,V),(7,ptr l7 0),(8,V),(21,V),(22,W),(24,B),(25,X),(26,(ptr Y (Z+2))),(27,j),(28,t),(29,B),(30,w),(31,(ptr AA (AB+1))),(32,AD),(33,AE)]) R T)))
def Qbv (C:CT) (B E F:Value) (g:G) (n:Nat) (K:Cont):Prop:=Ja3 C B E F (XZ C K (JI C K)) g n K
theorem ZbK (C:CT) (t:Env) (g:G) (n:Nat) (K:Cont):JI C K t g n=Jag Tryz.prog C [1,1,1,1,1,1,1] Qv K t g n:=by kernel_rfl
theorem Jb3 (C:CT) (K:Cont):JI C K=Jag Tryz.prog C [1,1,1,1,1,1,1] Qv K:=funext λt=>funext λg=>funext λn=>ZbK C t g n K
theorem QbM (C:CT) (J:Qk) (t:Env) (g:G) (n:Nat) (K:Cont):XZ C K J t g n=Qbb Tryz.prog C [1,1,1,1] [1,1,1] J Qv K t g n:=by kernel_rfl
theorem Zb2 (C:CT) (K:Cont):XZ C K (JI C K)=Jag Tryz.prog C [1,1,1,1] Qv K:=by
 rw [Jb3]
 exact (funext λt=>funext λg=>funext λn=>QbM C _ t g n K).trans (Za9 Tryz.prog C [1,1,1,1] [1,1,1] Qv K)
theorem Jb1 (C:CT) (j I E:Value) (J:Qk) (g:G) (n:Nat) (K:Cont):Ja3 C j I E J g n K=ZbP Tryz.prog C [1,1,1,1] J Qv [j,I,E] g n K:=by kernel_rfl
theorem Jc2 (C:CT) (j I E:Value) (g:G) (n:Nat) (K:Cont):Qbv C j I E g n K=Qe Tryz.prog C Qv [j,I,E] g n K:=by
 unfold Qbv
 rw [Jb1,Zb2]
 exact Xbe Tryz.prog C [1,1,1,1] Qv [j,I,E] g n K
def JbX (C:CT) (B:Value) (g:G) (n:Nat) (K:Cont):Prop:=
Jb .ptr .eql B (.pointer none) λE=>
Qa E (
Zc K (.bool true) g n) (
Xf B λB=>
Xc B λB E=>
kLd g B (E+0) λB=>
C JQ [B] g n λB E F=>
C XD [B,(.func (.func Xap) #[] #[])] E F λB E F=>
kUn .not B λB=>
Zc K B E F)
theorem QcD (C:CT) (j:Value) (g:G) (n:Nat) (K:Cont):JbX C j g n K=Qe Tryz.prog C Xae [j] g n K:=by kernel_rfl
def Xam (C:CT) (K:Cont) (t:Env) (g:G) (n:Nat):Prop:=
Xf (t 0) λB=>
Xc B λB E=>
kLd g B (E+0) λB=>
Xc (t 3) λE F=>
kLd g E (F+1) λE=>
Xc (t 3) λF H=>
Ql g F (H+2) 8 λF=>
C QN [B,E,t 6,.agg F.toArray] g n λB B E=>
Xc (t 5) λF H=>
Ql B F H 12 λF=>
Qf (reps 1 [.int .i64 0,.int .i64 0,.bool false,.bool false,.int .u64 0,.int .u64 0,.int .u64 0,.int .u64 0,.int .u64 0,.int .u64 0,.int .u64 0,.int .u64 0]) [(0,some 12,.agg F.toArray)] λF=>
Zl F .exact B E λB E F=>
Zc K (.slice (some ⟨B,0,none⟩) 1 1) E F
def Qcg (C:CT) (B E:Value) (g:G) (n:Nat) (K:Cont):Prop:=
Jj E λc3=>
Zl c3 .exact g n λl3 F n3=>
kLd F l3 (0+1) λH=>
Qf [.int .i64 0,.int .i64 0,.bool false,.bool false,.int .u64 0,.int .u64 0,.int .u64 0,.int .u64 0,.int .u64 0,.int .u64 0,.int .u64 0,.int .u64 0] [(0,none,.int .i64 3),(1,none,H)] λI=>
Zl [.int .i64 0,.int .i64 0,.bool false,.bool false,.int .u64 0,.int .u64 0,.int .u64 0,.int .u64 0,.int .u64 0,.int .u64 0,.int .u64 0,.int .u64 0] .exact F n3 λl5 F n5=>
Jj (.agg I.toArray) λJ=>
J.length=12∧Qu F l5 0 J λF=>
kLd F l3 (0+0) λJ=>
Jb .int .eql J (.int .i64 3) λM=>
Qa M (
Ql F l3 (0+2) 8 λO=>
kSt F l5 (0+2) (.bool true) λP=>
(Xc (ptr l3 (0+2)) λl _=>P l=F l)∧Jj (.agg O.toArray) λQ=>
Q.length=8∧Qu P l5 (0+4) Q λP=>
Xam C K (puts (Qi [B,E]) [(3,ptr l3 0),(4,.slice none 0 0),(7,(ptr l3 (0+1))),(8,H),(9,.agg I.toArray),(5,ptr l5 0),(6,.int .i64 7),(10,(ptr l3 (0+0))),(11,J),(12,M),(13,(ptr l3 (0+2))),(14,.agg O.toArray),(6,.int .i64 9),(15,(ptr l5 (0+2))),(16,(ptr l5 (0+4)))]) P n5) (
Xam C K (puts (Qi [B,E]) [(3,ptr l3 0),(4,.slice none 0 0),(7,(ptr l3 (0+1))),(8,H),(9,.agg I.toArray),(5,ptr l5 0),(6,.int .i64 7),(10,(ptr l3 (0+0))),(11,J),(12,M)]) F n5)
theorem ZcL (C:CT) (j E:Value) (g:G) (n:Nat) (K:Cont):Qcg C j E g n K=Qe Tryz.prog C Q5 [j,E] g n K:=by kernel_rfl
def Zby (C:CT) (B:Value) (g:G) (n:Nat) (K:Cont):Prop:=
Jb .ptr .eql B (.pointer none) λE=>
Qa E (
Zc K (.slice none 0 0) g n) (
Xf B λB=>
Xc B λl7 B=>
kLd g l7 (B+2) λB=>
C QA [B] g n λB E F=>
C Xu [B,(.func (.func XaX) #[] #[])] E F λB E F=>
Zc K B E F)
theorem Jcn (C:CT) (j:Value) (g:G) (n:Nat) (K:Cont):Zby C j g n K=Qe Tryz.prog C JQ [j] g n K:=by kernel_rfl
def JbE (C:CT) (B E:Value) (g:G) (n:Nat) (K:Cont):Prop:=
Jb .ptr .eql B (.pointer none) λF=>
Qa F (
Zc K (.slice none 0 0) g n) (
C Jbc [E,.int .i64 0] g n λF H I=>
kUn .not F λF=>
Qa F (
Zc K (.slice none 0 0) H I) (
C ZY [B,E] H I λF H I=>
Qa F (
Zc K (.slice none 0 0) H I) (
C Qr [B,E] H I λF H I=>
Zl [.int .i64 0,.int .i64 0,.int .u64 0,.int .u64 0,.int .u64 0,.int .u64 0,.int .u64 0,.int .u64 0,.int .u64 0,.int .u64 0,.int .i64 0] .exact H I λl5 H n5=>
Jj F λF=>
F.length=11∧Qu H l5 0 F λF=>
kLd F l5 (0+0) λH=>
Jb .int .eql H (.int .i64 1) λH=>
Qa H (
Ql F l5 (0+2) 8 λH=>
C X6 [B,E,.int .i64 6,.int .i64 2,.agg H.toArray] F n5 λH I J=>
Zc K H I J) (
Qf [.int .u64 0,.int .u64 0,.int .u64 0,.int .u64 0,.int .u64 0,.int .u64 0,.int .u64 0,.int .u64 0] [] λH=>
C X6 [B,E,.int .i64 5,.int .i64 2,.agg H.toArray] F n5 λB E F=>
Zc K B E F))))
theorem Zcq (C:CT) (j E:Value) (g:G) (n:Nat) (K:Cont):JbE C j E g n K=Qe Tryz.prog C Q8 [j,E] g n K:=by kernel_rfl
def Qb0 (C:CT) (B E:Value) (g:G) (n:Nat) (K:Cont):Prop:=
Jb .ptr .eql B (.pointer none) λF=>
Qa F (
Zc K (.bool false) g n) (
C Qr [B,E] g n λB E F=>
Zl [.int .i64 0,.int .i64 0,.int .u64 0,.int .u64 0,.int .u64 0,.int .u64 0,.int .u64 0,.int .u64 0,.int .u64 0,.int .u64 0,.int .i64 0] .exact E F λl5 E n5=>
Jj B λB=>
B.length=11∧Qu E l5 0 B λB=>
kLd B l5 (0+0) λE=>
Jb .int .eql E (.int .i64 2) λE=>
Qa E (
Zc K (.bool true) B n5) (
kLd B l5 (0+0) λE=>
Jb .int .eql E (.int .i64 3) λE=>
Zc K E B n5))
theorem ZcF (C:CT) (j E:Value) (g:G) (n:Nat) (K:Cont):Qb0 C j E g n K=Qe Tryz.prog C ZY [j,E] g n K:=by kernel_rfl
def QbI (C:CT) (K:Cont) (t:Env) (g:G) (n:Nat):Prop:=
Xf (t 0) λB=>
Xc B λB E=>
kLd g B (E+2) λB=>
Xaz B [.int .i64 0,.int .u64 0,.int .u64 0,.int .u64 0,.int .u64 0,.int .u64 0,.int .u64 0,.int .u64 0,.int .u64 0] g λv_ B=>
Xf (t 0) λE=>
Xc E λE F=>
kLd B E (F+2) λE=>
Xx E none (some (.int .i64 0)) none 9 λE=>
Xf (t 0) λF=>
Xc F λF H=>
kSt B F (H+2) E λB=>
Xf (t 0) λE=>
Xc E λE F=>
kLd B E (F+0) λE=>
C ZF [E] B n λB B E=>
Zc K (.tuple #[]) B E
def ZbE (C:CT) (K:Cont) (I_l1:Qk) (t:Env) (g:G) (n:Nat):Prop:=
Jb .int .lss (t 11) (t 10) λB=>
Qa B (
Jd (t 9) (t 11) 9 λE=>
Xc E λF H=>
Ql g F H 9 λF=>
Zl [.int .i64 0,.int .u64 0,.int .u64 0,.int .u64 0,.int .u64 0,.int .u64 0,.int .u64 0,.int .u64 0,.int .u64 0] .exact g n λl3 H n3=>
Jj (.agg F.toArray) λI=>
I.length=9∧Qu H l3 0 I λH=>
Xf (t 0) λI=>
Xc I λJ M=>
kLd H J (M+0) λO=>
kLd H l3 (0+0) λP=>
Ql H l3 (0+1) 8 λQ=>
C Jae [O,P,.agg Q.toArray] H n3 λH R T=>
Jb .int .add (t 11) (.int .i64 1) λU=>
I_l1 (puts t [(12,B),(13,E),(14,.agg F.toArray),(3,ptr l3 0),(15,t 0),(16,I),(17,(ptr J (M+0))),(18,O),(19,(ptr l3 (0+0))),(20,P),(21,(ptr l3 (0+1))),(22,.agg Q.toArray),(23,H),(24,U),(11,U)]) R T) (
QbI C K (puts t [(12,B)]) g n)
def Zcv (C:CT) (B:Value) (g:G) (n:Nat) (K:Cont):Prop:=
Jb .ptr .eql B (.pointer none) λE=>
Qa E (
Zc K (.tuple #[]) g n) (
Xf B λF=>
Xc F λH I=>
kLd g H (I+2) λJ=>
Jak J λM=>
lfp (ZbE C K) (puts (Qi [B]) [(4,B),(5,E),(6,B),(7,F),(8,(ptr H (I+2))),(9,J),(10,M),(11,.int .i64 0)]) g n)
theorem Qc4 (C:CT) (j:Value) (g:G) (n:Nat) (K:Cont):Zcv C j g n K=Qe Tryz.prog C QaT [j] g n K:=by kernel_rfl
def QcS (C:CT) (B:Value) (g:G) (n:Nat) (K:Cont):Prop:=
Jb .ptr .eql B (.pointer none) λE=>
Qa E (
Zc K (.slice none 0 0) g n) (
Xf B λB=>
Xc B λl7 B=>
kLd g l7 (B+0) λB=>
C QI [B] g n λB E F=>
Zc K B E F)
theorem Jdk (C:CT) (j:Value) (g:G) (n:Nat) (K:Cont):QcS C j g n K=Qe Tryz.prog C Jai [j] g n K:=by kernel_rfl
def QfA (C:CT) (B:Value) (g:G) (n:Nat) (K:Cont):Prop:=
Jb .int .lss B (.int .i64 1) λE=>
Qa E (
Zc K (.tuple #[.pointer none,.int .i64 1]) g n) (
Jb .int .gtr B (.int .i64 16) λE=>
Qa E (
Zc K (.tuple #[.pointer none,.int .i64 1]) g n) (
Qf [.int .i64 0,.int .i64 0,.int .i64 0,.int .u64 0,.bool false,.int .i64 0,.int .i64 0,.int .i64 0,.int .u64 0,.bool false,.int .i64 0,.int .i64 0,.int .i64 0,.int .u64 0,.bool false,.int .i64 0,.int .i64 0,.int .i64 0,.int .u64 0,.bool false,.int .i64 0,.int .i64 0,.int .i64 0,.int .u64 0,.bool false,.int .i64 0,.int .i64 0,.int .i64 0,.int .u64 0,.bool false,.int .i64 0,.int .i64 0,.int .i64 0,.int .u64 0,.bool false,.int .i64 0,.int .i64 0,.int .i64 0,.int .u64 0,.bool false,.int .i64 0,.int .i64 0,.int .i64 0,.int .u64 0,.bool false,.int .i64 0,.int .i64 0,.int .i64 0,.int .u64 0,.bool false,.int .i64 0,.int .i64 0,.int .i64 0,.int .u64 0,.bool false,.int .i64 0,.int .i64 0,.int .i64 0,.int .u64 0,.bool false,.int .i64 0,.int .i64 0,.int .i64 0,.int .u64 0,.bool false,.int .i64 0,.int .i64 0,.int .i64 0,.int .u64 0,.bool false,.int .i64 0,.int .i64 0,.int .i64 0,.int .u64 0,.bool false,.int .i64 0,.int .i64 0,.int .i64 0,.int .u64 0,.bool false,.int .i64 0,.int .i64 0,.int .i64 0] [(80,none,B)] λB=>
Jj (.agg B.toArray) λB=>
Zl B .exact g n λB E F=>
Zc K (.tuple #[ptr B 0,.int .i64 0]) E F))
theorem Qfb (C:CT) (j:Value) (g:G) (n:Nat) (K:Cont):QfA C j g n K=Qe Tryz.prog C QcH [j] g n K:=by kernel_rfl
def Qa6 (C:CT) (B E:Value) (g:G) (n:Nat) (K:Cont):Prop:=
Jj E λc3=>
Zl c3 .exact g n λl3 E n3=>
kLd E l3 (0+1) λF=>
Xf B λH=>
Xc H λH I=>
kLd E H (I+0) λJ=>
C Jk [B,F] E n3 λB F M=>
(Xc (ptr H (I+0)) λl _=>F l=E l)∧C QX [B,J] F M λB E F=>
Zc K B E F
theorem ZbM (C:CT) (j E:Value) (g:G) (n:Nat) (K:Cont):Qa6 C j E g n K=Qe Tryz.prog C ZT [j,E] g n K:=by kernel_rfl
def XaY (C:CT) (B E:Value) (g:G) (n:Nat) (K:Cont):Prop:=
Jj E λc3=>
Zl c3 .exact g n λl3 E n3=>
kLd E l3 (0+1) λF=>
Xf B λH=>
Xc H λH I=>
kLd E H (I+0) λJ=>
C Jk [B,F] E n3 λB F M=>
(Xc (ptr H (I+0)) λl _=>F l=E l)∧C JO [B,J] F M λB E F=>
Zc K B E F
theorem Zbx (C:CT) (j E:Value) (g:G) (n:Nat) (K:Cont):XaY C j E g n K=Qe Tryz.prog C JN [j,E] g n K:=by kernel_rfl
def Xbo (C:CT) (B E:Value) (g:G) (n:Nat) (K:Cont):Prop:=
Jj E λc3=>
Zl c3 .exact g n λl3 E n3=>
Xf B λB=>
Xc B λl7 B=>
kLd E l7 (B+0) λB=>
kLd E l3 (0+1) λF=>
C Zat [B,F] E n3 λB B E=>
Zc K (.slice none 0 0) B E
theorem Qcc (C:CT) (j E:Value) (g:G) (n:Nat) (K:Cont):Xbo C j E g n K=Qe Tryz.prog C Z7 [j,E] g n K:=by kernel_rfl
def ZaS (C:CT) (B E:Value) (g:G) (n:Nat) (K:Cont):Prop:=
Jj E λc3=>
Zl c3 .exact g n λl3 E n3=>
Xf B λB=>
Xc B λl7 B=>
kLd E l7 (B+0) λB=>
kLd E l3 (0+1) λF=>
C Q6 [B,F] E n3 λB B E=>
Zc K (.slice none 0 0) B E
theorem Jbu (C:CT) (j E:Value) (g:G) (n:Nat) (K:Cont):ZaS C j E g n K=Qe Tryz.prog C JJ [j,E] g n K:=by kernel_rfl
def Qa5 (C:CT) (B E:Value) (g:G) (n:Nat) (K:Cont):Prop:=
Jj E λc3=>
Zl c3 .exact g n λl3 E n3=>
Xf B λF=>
Xc F λF H=>
kLd E F (H+0) λI=>
kLd E l3 (0+1) λJ=>
(C QZ [I,J] E n3 λM O P=>
Qc M 0 λQ=>
Qc M 1 λR=>
Zl [.int .i64 0,.int .i64 0,.bool false,.bool false,.int .u64 0,.int .u64 0,.int .u64 0,.int .u64 0,.int .u64 0,.int .u64 0,.int .u64 0,.int .u64 0] .exact O P λl5 T n5=>
(Xc (ptr F (H+0)) λl _=>T l=O l)∧(Xc (ptr l3 (0+1)) λl _=>T l=O l)∧Jj Q λO=>
O.length=12∧Qu T l5 0 O λO=>
Jb .int .neq R (.int .i64 0) λT=>
Qa T (
Zc K (.slice none 0 0) O n5) (
kLd O l3 (0+1) λU=>
Ql O l5 0 12 λV=>
C Jk [B,U] O n5 λW X Y=>
(Xc (ptr l5 0) λl _=>X l=O l)∧C Zz [W,.agg V.toArray] X Y λO X Z=>
Zc K O X Z))∧(Zl [.int .i64 0,.int .i64 0,.bool false,.bool false,.int .u64 0,.int .u64 0,.int .u64 0,.int .u64 0,.int .u64 0,.int .u64 0,.int .u64 0,.int .u64 0] .exact E n3 λl5 X n5=>
(Xc (ptr F (H+0)) λl _=>X l=E l)∧(Xc (ptr l3 (0+1)) λl _=>X l=E l)∧C QZ [I,J] X n5 λM E P=>
Qc M 0 λQ=>
Qc M 1 λR=>
Jj Q λF=>
F.length=12∧Qu E l5 0 F λE=>
Jb .int .neq R (.int .i64 0) λT=>
Qa T (
Zc K (.slice none 0 0) E P) (
kLd E l3 (0+1) λU=>
Ql E l5 0 12 λV=>
C Jk [B,U] E P λW B Y=>
(Xc (ptr l5 0) λl _=>B l=E l)∧C Zz [W,.agg V.toArray] B Y λO B Z=>
Zc K O B Z))
theorem JbJ (C:CT) (j E:Value) (g:G) (n:Nat) (K:Cont):Qa5 C j E g n K=Qe Tryz.prog C JU [j,E] g n K:=by kernel_rfl
def Qa7 (C:CT) (B E:Value) (g:G) (n:Nat) (K:Cont):Prop:=
Jj E λc3=>
Zl c3 .exact g n λl3 E n3=>
Xf B λB=>
Xc B λl7 B=>
kLd E l7 (B+0) λB=>
kLd E l3 (0+2) λF=>
C Xah [B,F] E n3 λB E F=>
Jb .int .neq B (.int .i64 0) λB=>
Qa B (
Zc K (.slice none 0 0) E F) (
kLd E l3 (0+2) λB=>
C Qat [B] E F λB E F=>
Zc K B E F)
theorem JbP (C:CT) (j E:Value) (g:G) (n:Nat) (K:Cont):Qa7 C j E g n K=Qe Tryz.prog C JT [j,E] g n K:=by kernel_rfl
def Ja1 (C:CT) (B E:Value) (g:G) (n:Nat) (K:Cont):Prop:=
Jj E λc3=>
Zl c3 .exact g n λl3 E n3=>
Xf B λB=>
Xc B λl7 B=>
kLd E l7 (B+0) λB=>
kLd E l3 (0+1) λF=>
kLd E l3 (0+2) λH=>
C Jay [B,F,H] E n3 λB B E=>
Zc K (.slice none 0 0) B E
theorem Xbz (C:CT) (j E:Value) (g:G) (n:Nat) (K:Cont):Ja1 C j E g n K=Qe Tryz.prog C XO [j,E] g n K:=by kernel_rfl
def Za5 (C:CT) (B E:Value) (g:G) (n:Nat) (K:Cont):Prop:=
Jj E λc3=>
Zl c3 .exact g n λl3 E n3=>
Xf B λF=>
Xc F λF H=>
kLd E F (H+0) λF=>
kLd E l3 (0+2) λH=>
C Zaa [F,H] E n3 λE F H=>
Jj E λE=>
Xbf E 1 none λE=>
Xf B λB=>
Xc B λB I=>
kLd F B (I+0) λB=>
kLd F l3 (0+2) λI=>
C XaD [B,I] F H λB F H=>
Jb .int .neq B (.int .i64 0) λB=>
Qa B (
Zc K (.slice none 0 0) F H) (
kUn .not E λB=>
Qa B (
Zc K (.slice none 0 0) F H) (
kLd F l3 (0+2) λB=>
C Qat [B] F H λB E F=>
Zc K B E F))
theorem JbO (C:CT) (j E:Value) (g:G) (n:Nat) (K:Cont):Za5 C j E g n K=Qe Tryz.prog C ZV [j,E] g n K:=by kernel_rfl
def QaZ (C:CT) (B E:Value) (g:G) (n:Nat) (K:Cont):Prop:=
Jj E λc3=>
Zl c3 .exact g n λl3 E n3=>
Xf B λB=>
Xc B λl7 B=>
kLd E l7 (B+0) λB=>
kLd E l3 (0+2) λF=>
C X8 [B,F] E n3 λB B E=>
Zc K (.slice none 0 0) B E
theorem JbH (C:CT) (j E:Value) (g:G) (n:Nat) (K:Cont):QaZ C j E g n K=Qe Tryz.prog C QO [j,E] g n K:=by kernel_rfl
def Qah (C:CT) (K:Cont) (I_l1:Qk) (t:Env) (g:G) (n:Nat):Prop:=
Jb .int .gtr (t 6) (.int .i64 0) λB=>
Qa B (
Xf (t 0) λE=>
Xc E λF H=>
kLd g F (H+1) λI=>
Jd I (t 6) 1 λJ=>
Xc J λM O=>
kLd g M O λM=>
C XaU [M] g n λO P Q=>
Jb .int .add (t 30) (.int .i64 1) λR=>
I_l1 (puts t [(53,t 6),(54,B),(55,t 0),(56,E),(57,(ptr F (H+1))),(58,I),(59,t 6),(60,J),(61,M),(62,O),(63,R),(30,R)]) P Q) (
Jb .int .add (t 30) (.int .i64 1) λR=>
I_l1 (puts t [(53,t 6),(54,B),(63,R),(30,R)]) g n)
def JS (C:CT) (K:Cont) (I_l1:Qk) (t:Env) (g:G) (n:Nat):Prop:=
Xf (t 0) λB=>
Xc B λE F=>
kLd g E (F+1) λH=>
Xc (t 5) λI J=>
kLd g I (J+6) λM=>
C Qbc [t 6,M,t 7] g n λO P Q=>
(Xc (ptr E (F+1)) λl _=>P l=g l)∧Qc O 0 λR=>
Qc O 1 λT=>
Jd H (t 6) 1 λU=>
Xc U λV W=>
kSt P V W R λP=>
Qah C K I_l1 (puts t [(40,t 0),(41,B),(42,(ptr E (F+1))),(43,H),(44,t 6),(45,t 6),(46,(ptr I (J+6))),(47,M),(48,t 7),(49,O),(39,O),(50,R),(51,T),(52,U)]) P Q
def XaJ (C:CT) (K:Cont) (t:Env) (g:G) (n:Nat):Prop:=
Qf [.int .i64 0,.int .i64 0,.int .i64 0,.int .i64 0,.int .u64 0] [(0,none,.int .i64 11)] λB=>
Qf (reps 1 [.int .i64 0,.int .i64 0,.int .i64 0,.int .i64 0,.int .u64 0]) [(0,some 5,.agg B.toArray)] λB=>
Zl B .exact g n λB E F=>
Zc K (.slice (some ⟨B,0,none⟩) 1 1) E F
def JaM (C:CT) (K:Cont) (I_l1:Qk) (t:Env) (g:G) (n:Nat):Prop:=
Jb .int .lss (t 30) (t 29) λB=>
Qa B (
Jb .int .eql (t 30) (.int .i64 0) λE=>
Qa E (
Xf (t 0) λF=>
Xc F λH I=>
kLd g H (I+2) λJ=>
JS C K I_l1 (puts t [(31,B),(32,t 30),(6,t 30),(7,.slice none 0 0),(33,t 30),(34,E),(35,t 0),(36,F),(37,(ptr H (I+2))),(38,J),(7,J)]) g n) (
JS C K I_l1 (puts t [(31,B),(32,t 30),(6,t 30),(7,.slice none 0 0),(33,t 30),(34,E)]) g n)) (
XaJ C K (puts t [(31,B)]) g n)
def JC (C:CT) (K:Cont) (t:Env) (g:G) (n:Nat):Prop:=
Xf (t 0) λB=>
Xc B λE F=>
kLd g E (F+1) λH=>
Jak H λI=>
lfp (JaM C K) (puts t [(25,t 0),(26,B),(27,(ptr E (F+1))),(28,H),(29,I),(30,.int .i64 0)]) g n
def Xak (C:CT) (B E:Value) (J:Qk) (g:G) (n:Nat) (K:Cont):Prop:=
Jj E λc3=>
Zl c3 .exact g n λl3 F n3=>
Xf B λH=>
Xc H λI M=>
kLd F I (M+0) λO=>
C QaF [O] F n3 λF P Q=>
Xf B λR=>
Xc R λT U=>
kLd P T (U+3) λV=>
Jb .int .add V (.int .i64 1) λW=>
Xf B λX=>
Xc X λY Z=>
kSt P Y (Z+3) W λP=>
Xf B λj=>
Xc j λt w=>
kLd P t (w+0) λAA=>
C QK [AA] P Q λP Q AB=>
Zl [.int .i64 0,.int .i64 0,.int .i64 0,.int .i64 0,.int .i64 0,.int .i64 0,.int .i64 0] .exact Q AB λl5 Q n5=>
Jj P λAB=>
AB.length=7∧Qu Q l5 0 AB λQ=>
J (puts (Qi [B,E]) [(3,ptr l3 0),(4,.slice none 0 0),(8,B),(9,H),(10,(ptr I (M+0))),(11,O),(12,F),(13,B),(14,R),(15,(ptr T (U+3))),(16,V),(17,W),(18,X),(19,(ptr Y (Z+3))),(20,B),(21,j),(22,(ptr t (w+0))),(23,AA),(24,P),(5,ptr l5 0)]) Q n5
def Qay (C:CT) (B E:Value) (g:G) (n:Nat) (K:Cont):Prop:=Xak C B E (JC C K) g n K
theorem Xa8 (C:CT) (t:Env) (g:G) (n:Nat) (K:Cont):JC C K t g n=Jag Tryz.prog C [1,1,1,1] Xq K t g n:=by kernel_rfl
theorem Qbi (C:CT) (K:Cont):JC C K=Jag Tryz.prog C [1,1,1,1] Xq K:=funext λt=>funext λg=>funext λn=>Xa8 C t g n K
theorem Qa9 (C:CT) (j E:Value) (J:Qk) (g:G) (n:Nat) (K:Cont):Xak C j E J g n K=ZbP Tryz.prog C [1,1,1,1] J Xq [j,E] g n K:=by kernel_rfl
theorem XbM (C:CT) (j E:Value) (g:G) (n:Nat) (K:Cont):Qay C j E g n K=Qe Tryz.prog C Xq [j,E] g n K:=by
 unfold Qay
 rw [Qa9,Qbi]
 exact Xbe Tryz.prog C [1,1,1,1] Xq [j,E] g n K
def Qbn (C:CT) (K:Cont) (I_l1:Qk) (t:Env) (g:G) (n:Nat):Prop:=
Jb .int .lss (t 7) (t 6) λB=>
Qa B (
Xf (t 0) λE=>
Xc E λF H=>
C QD [t 0,t 7] g n λI J M=>
Ji (ptr F (H+0)) I 16 5 λO=>
Xc O λP Q=>
Ql J P Q 5 λP=>
Qf (reps 1 [.int .i64 0,.int .i64 0,.int .i64 0,.int .u64 0,.bool false]) [(0,some 5,.agg P.toArray)] λQ=>
Zl Q .exact J M λJ M Q=>
Zs (t 3) (.slice (some ⟨J,0,none⟩) 1 1) 5 40 M Q λM Q R=>
Jb .int .add (t 7) (.int .i64 1) λT=>
I_l1 (puts t [(8,B),(9,t 7),(4,t 7),(10,t 3),(11,t 0),(12,t 0),(13,t 7),(15,E),(16,(ptr F (H+0))),(14,I),(17,O),(18,.agg P.toArray),(19,(.slice (some ⟨J,0,none⟩) 1 1)),(20,M),(3,M),(21,T),(7,T)]) Q R) (
Zc K (t 3) g n)
def Zb7 (C:CT) (B:Value) (g:G) (n:Nat) (K:Cont):Prop:=
C JD [B] g n λE F H=>
lfp (Qbn C K) (puts (Qi [B]) [(2,.slice none 0 0),(3,.slice none 0 0),(5,B),(6,E),(7,.int .i64 0)]) F H
theorem JcT (C:CT) (j:Value) (g:G) (n:Nat) (K:Cont):Zb7 C j g n K=Qe Tryz.prog C JaN [j] g n K:=by kernel_rfl
def QF (C:CT) (K:Cont) (t:Env) (g:G) (n:Nat):Prop:=
Jbz (t 104) λb108=>
Qa (bif b108 then (t 107) else (.bool false)) (
kUn .not (t 3) λB=>
Qa B (
Zc K (.bool true) g n) (
Xc (t 1) λB E=>
kLd g B (E+4) λB=>
Jb .int .geq B (.int .i64 0) λB=>
Zc K B g n)) (
Zc K (.bool false) g n)
def J9 (C:CT) (K:Cont) (t:Env) (g:G) (n:Nat):Prop:=
Jbz (t 91) λb95=>
Qa (bif b95 then (.bool true) else (t 94)) (
Xc (t 1) λB E=>
kLd g B (E+4) λF=>
Jb .int .geq F (.int .i64 (-2147483648)) λH=>
Qa H (
Xc (t 1) λI J=>
kLd g I (J+4) λM=>
Jb .int .lss M (.int .i64 2147483648) λO=>
QF C K (puts t [(95,(bif b95 then (.bool true) else (t 94))),(96,.bool true),(97,undef),(98,undef),(99,undef),(100,.bool true),(3,.bool true),(101,(ptr B (E+4))),(102,F),(103,H),(104,.bool true),(105,(ptr I (J+4))),(106,M),(107,O)]) g n) (
QF C K (puts t [(95,(bif b95 then (.bool true) else (t 94))),(96,.bool true),(97,undef),(98,undef),(99,undef),(100,.bool true),(3,.bool true),(101,(ptr B (E+4))),(102,F),(103,H),(104,.bool false),(105,undef),(106,undef),(107,undef)]) g n)) (
Xc (t 1) λP Q=>
kLd g P (Q+0) λR=>
Jb .int .eql R (.int .i64 20) λT=>
Xc (t 1) λB E=>
kLd g B (E+4) λF=>
Jb .int .geq F (.int .i64 (-2147483648)) λH=>
Qa H (
Xc (t 1) λI J=>
kLd g I (J+4) λM=>
Jb .int .lss M (.int .i64 2147483648) λO=>
QF C K (puts t [(95,(bif b95 then (.bool true) else (t 94))),(96,.bool false),(97,(ptr P (Q+0))),(98,R),(99,T),(100,T),(3,T),(101,(ptr B (E+4))),(102,F),(103,H),(104,.bool true),(105,(ptr I (J+4))),(106,M),(107,O)]) g n) (
QF C K (puts t [(95,(bif b95 then (.bool true) else (t 94))),(96,.bool false),(97,(ptr P (Q+0))),(98,R),(99,T),(100,T),(3,T),(101,(ptr B (E+4))),(102,F),(103,H),(104,.bool false),(105,undef),(106,undef),(107,undef)]) g n))
def JF (C:CT) (K:Cont) (t:Env) (g:G) (n:Nat):Prop:=
Jbz (t 86) λb90=>
Qa (bif b90 then (.bool true) else (t 89)) (
J9 C K (puts t [(90,(bif b90 then (.bool true) else (t 89))),(91,.bool true),(92,undef),(93,undef),(94,undef)]) g n) (
Xc (t 1) λB E=>
kLd g B (E+0) λF=>
Jb .int .eql F (.int .i64 19) λH=>
J9 C K (puts t [(90,(bif b90 then (.bool true) else (t 89))),(91,.bool false),(92,(ptr B (E+0))),(93,F),(94,H)]) g n)
def JR (C:CT) (K:Cont) (t:Env) (g:G) (n:Nat):Prop:=
Jbz (t 54) λb64=>
Qa (bif b64 then (.bool true) else (t 63)) (
Zc K (.bool false) g n) (
Xc (t 1) λB E=>
kLd g B (E+0) λF=>
C Zu [F,.int .u8 67] g n λH I J=>
kUn .not H λM=>
Qa M (
Xc (t 1) λO P=>
kLd I O (P+3) λQ=>
Jb .int .neq Q (.int .i64 0) λR=>
Qa R (
Zc K (.bool false) I J) (
Xc (t 1) λT U=>
kLd I T (U+0) λV=>
C Zu [V,.int .u8 73] I J λW X Y=>
kUn .not W λZ=>
Qa Z (
Xc (t 1) λj w=>
kLd X j (w+4) λAA=>
Jb .int .eql AA (.int .i64 0) λAB=>
Zc K AB X Y) (
Xc (t 1) λAD AE=>
kLd X AD (AE+0) λAF=>
Jb .int .eql AF (.int .i64 17) λAG=>
Qa AG (
JF C K (puts t [(64,(bif b64 then (.bool true) else (t 63))),(65,.bool false),(66,(ptr B (E+0))),(67,F),(68,H),(69,M),(70,.bool true),(71,(ptr O (P+3))),(72,Q),(73,R),(74,R),(75,R),(76,(ptr T (U+0))),(77,V),(78,W),(79,Z),(83,(ptr AD (AE+0))),(84,AF),(85,AG),(86,.bool true),(87,undef),(88,undef),(89,undef)]) X Y) (
Xc (t 1) λAH AI=>
kLd X AH (AI+0) λAJ=>
Jb .int .eql AJ (.int .i64 18) λAL=>
JF C K (puts t [(64,(bif b64 then (.bool true) else (t 63))),(65,.bool false),(66,(ptr B (E+0))),(67,F),(68,H),(69,M),(70,.bool true),(71,(ptr O (P+3))),(72,Q),(73,R),(74,R),(75,R),(76,(ptr T (U+0))),(77,V),(78,W),(79,Z),(83,(ptr AD (AE+0))),(84,AF),(85,AG),(86,.bool false),(87,(ptr AH (AI+0))),(88,AJ),(89,AL)]) X Y)))) (
Xc (t 1) λT U=>
kLd I T (U+0) λV=>
C Zu [V,.int .u8 73] I J λW I Y=>
kUn .not W λZ=>
Qa Z (
Xc (t 1) λj w=>
kLd I j (w+4) λAA=>
Jb .int .eql AA (.int .i64 0) λAB=>
Zc K AB I Y) (
Xc (t 1) λAD AE=>
kLd I AD (AE+0) λAF=>
Jb .int .eql AF (.int .i64 17) λAG=>
Qa AG (
JF C K (puts t [(64,(bif b64 then (.bool true) else (t 63))),(65,.bool false),(66,(ptr B (E+0))),(67,F),(68,H),(69,M),(70,.bool false),(71,undef),(72,undef),(73,undef),(74,.bool false),(75,.bool false),(76,(ptr T (U+0))),(77,V),(78,W),(79,Z),(83,(ptr AD (AE+0))),(84,AF),(85,AG),(86,.bool true),(87,undef),(88,undef),(89,undef)]) I Y) (
Xc (t 1) λAH AI=>
kLd I AH (AI+0) λAJ=>
Jb .int .eql AJ (.int .i64 18) λAL=>
JF C K (puts t [(64,(bif b64 then (.bool true) else (t 63))),(65,.bool false),(66,(ptr B (E+0))),(67,F),(68,H),(69,M),(70,.bool false),(71,undef),(72,undef),(73,undef),(74,.bool false),(75,.bool false),(76,(ptr T (U+0))),(77,V),(78,W),(79,Z),(83,(ptr AD (AE+0))),(84,AF),(85,AG),(86,.bool false),(87,(ptr AH (AI+0))),(88,AJ),(89,AL)]) I Y))))
def ZS (C:CT) (K:Cont) (t:Env) (g:G) (n:Nat):Prop:=
Jbz (t 43) λb53=>
Qa (bif b53 then (.bool true) else (t 52)) (
JR C K (puts t [(53,(bif b53 then (.bool true) else (t 52))),(54,.bool true),(55,undef),(56,undef),(57,undef),(58,undef),(59,undef),(60,undef),(61,undef),(62,undef),(63,undef)]) g n) (
Xc (t 1) λB E=>
kLd g B (E+0) λF=>
C Zu [F,.int .u8 67] g n λH I J=>
Qa H (
Xc (t 1) λM O=>
kLd I M (O+3) λP=>
C XY [P] I J λQ R T=>
kUn .not Q λU=>
JR C K (puts t [(53,(bif b53 then (.bool true) else (t 52))),(54,.bool false),(55,(ptr B (E+0))),(56,F),(57,H),(58,.bool true),(59,(ptr M (O+3))),(60,P),(61,Q),(62,U),(63,U)]) R T) (
JR C K (puts t [(53,(bif b53 then (.bool true) else (t 52))),(54,.bool false),(55,(ptr B (E+0))),(56,F),(57,H),(58,.bool false),(59,undef),(60,undef),(61,undef),(62,undef),(63,.bool false)]) I J))
def QS (C:CT) (K:Cont) (t:Env) (g:G) (n:Nat):Prop:=
Jbz (t 32) λb42=>
Qa (bif b42 then (.bool true) else (t 41)) (
ZS C K (puts t [(42,(bif b42 then (.bool true) else (t 41))),(43,.bool true),(44,undef),(45,undef),(46,undef),(47,undef),(48,undef),(49,undef),(50,undef),(51,undef),(52,undef)]) g n) (
Xc (t 1) λB E=>
kLd g B (E+0) λF=>
C Zu [F,.int .u8 66] g n λH I J=>
kUn .not H λM=>
Qa M (
Xc (t 1) λO P=>
kLd I O (P+2) λQ=>
Jb .int .neq Q (.int .i64 0) λR=>
ZS C K (puts t [(42,(bif b42 then (.bool true) else (t 41))),(43,.bool false),(44,(ptr B (E+0))),(45,F),(46,H),(47,M),(48,.bool true),(49,(ptr O (P+2))),(50,Q),(51,R),(52,R)]) I J) (
ZS C K (puts t [(42,(bif b42 then (.bool true) else (t 41))),(43,.bool false),(44,(ptr B (E+0))),(45,F),(46,H),(47,M),(48,.bool false),(49,undef),(50,undef),(51,undef),(52,.bool false)]) I J))
def XR (C:CT) (K:Cont) (t:Env) (g:G) (n:Nat):Prop:=
Jbz (t 21) λb31=>
Qa (bif b31 then (.bool true) else (t 30)) (
QS C K (puts t [(31,(bif b31 then (.bool true) else (t 30))),(32,.bool true),(33,undef),(34,undef),(35,undef),(36,undef),(37,undef),(38,undef),(39,undef),(40,undef),(41,undef)]) g n) (
Xc (t 1) λB E=>
kLd g B (E+0) λF=>
C Zu [F,.int .u8 66] g n λH I J=>
Qa H (
Xc (t 1) λM O=>
kLd I M (O+2) λP=>
C XY [P] I J λQ R T=>
kUn .not Q λU=>
QS C K (puts t [(31,(bif b31 then (.bool true) else (t 30))),(32,.bool false),(33,(ptr B (E+0))),(34,F),(35,H),(36,.bool true),(37,(ptr M (O+2))),(38,P),(39,Q),(40,U),(41,U)]) R T) (
QS C K (puts t [(31,(bif b31 then (.bool true) else (t 30))),(32,.bool false),(33,(ptr B (E+0))),(34,F),(35,H),(36,.bool false),(37,undef),(38,undef),(39,undef),(40,undef),(41,.bool false)]) I J))
def Q9 (C:CT) (K:Cont) (t:Env) (g:G) (n:Nat):Prop:=
Jbz (t 15) λb20=>
Qa (bif b20 then (t 19) else (.bool false)) (
XR C K (puts t [(20,(bif b20 then (t 19) else (.bool false))),(21,.bool true),(22,undef),(23,undef),(24,undef),(25,undef),(26,undef),(27,undef),(28,undef),(29,undef),(30,undef)]) g n) (
Xc (t 1) λB E=>
kLd g B (E+0) λF=>
C Zu [F,.int .u8 65] g n λH I J=>
kUn .not H λM=>
Qa M (
Xc (t 1) λO P=>
kLd I O (P+1) λQ=>
Jb .int .neq Q (.int .i64 0) λR=>
XR C K (puts t [(20,(bif b20 then (t 19) else (.bool false))),(21,.bool false),(22,(ptr B (E+0))),(23,F),(24,H),(25,M),(26,.bool true),(27,(ptr O (P+1))),(28,Q),(29,R),(30,R)]) I J) (
XR C K (puts t [(20,(bif b20 then (t 19) else (.bool false))),(21,.bool false),(22,(ptr B (E+0))),(23,F),(24,H),(25,M),(26,.bool false),(27,undef),(28,undef),(29,undef),(30,.bool false)]) I J))
def Jbx (C:CT) (B:Value) (g:G) (n:Nat) (K:Cont):Prop:=
Jj B λc1=>
Zl c1 .exact g n λl1 E n1=>
kLd E l1 (0+0) λF=>
Jb .int .lss F (.int .i64 0) λH=>
Qa H (
Zc K (.bool false) E n1) (
kLd E l1 (0+0) λI=>
Jb .int .gtr I (.int .i64 22) λJ=>
Qa J (
Zc K (.bool false) E n1) (
kLd E l1 (0+0) λM=>
C Zu [M,.int .u8 65] E n1 λE O P=>
Qa E (
kLd O l1 (0+1) λQ=>
C XY [Q] O P λR T U=>
kUn .not R λV=>
Q9 C K (puts (Qi [B]) [(1,ptr l1 0),(2,.bool false),(4,(ptr l1 (0+0))),(5,F),(6,H),(7,.bool false),(8,(ptr l1 (0+0))),(9,I),(10,J),(11,J),(12,(ptr l1 (0+0))),(13,M),(14,E),(15,.bool true),(16,(ptr l1 (0+1))),(17,Q),(18,R),(19,V)]) T U) (
Q9 C K (puts (Qi [B]) [(1,ptr l1 0),(2,.bool false),(4,(ptr l1 (0+0))),(5,F),(6,H),(7,.bool false),(8,(ptr l1 (0+0))),(9,I),(10,J),(11,J),(12,(ptr l1 (0+0))),(13,M),(14,E),(15,.bool false),(16,undef),(17,undef),(18,undef),(19,undef)]) O P)))
theorem Jcq (C:CT) (j:Value) (g:G) (n:Nat) (K:Cont):Jbx C j g n K=Qe Tryz.prog C Xav [j] g n K:=by kernel_rfl
def Qam (C:CT) (K:Cont) (t:Env) (g:G) (n:Nat):Prop:=
Jb .int .lss (t 9) (.int .i64 0) λB=>
Qa B (
Zc K (.int .i64 13) g n) (
Xc (t 7) λB E=>
Ql g B E 8 λB=>
C J4 [t 0] g n λE F H=>
(Xc (t 7) λl _=>F l=g l)∧Qf [.int .i64 0,.int .i64 0,.int .u64 0,.int .u64 0,.int .u64 0,.int .u64 0,.int .u64 0,.int .u64 0,.int .u64 0,.int .u64 0,.int .i64 0] [(0,none,t 2),(1,none,t 1),(2,some 8,.agg B.toArray),(10,none,E)] λB=>
Jd (t 10) (t 9) 11 λE=>
Xc E λE I=>
Jj (.agg B.toArray) λB=>
B.length=11∧Qu F E I B λB=>
Zc K (.int .i64 0) B H)
def Jb6 (C:CT) (B E F H:Value) (g:G) (n:Nat) (K:Cont):Prop:=
Jj H λc7=>
Zl c7 .exact g n λl7 I J=>
Jb .ptr .eql B (.pointer none) λM=>
Qa M (
Zc K (.int .i64 1) I J) (
Jb .int .lss E (.int .i64 0) λO=>
Qa O (
Zc K (.int .i64 1) I J) (
Jb .int .lss F (.int .i64 1) λP=>
Qa P (
Zc K (.int .i64 1) I J) (
Jb .int .gtr F (.int .i64 9) λQ=>
Qa Q (
Zc K (.int .i64 1) I J) (
C JW [B,E] I J λI J R=>
C ZB [B,E] J R λJ R T=>
Jb .int .lss I (.int .i64 0) λU=>
Qa U (
C Jh [J,(.func (.func XaX) #[] #[])] R T λV W X=>
Qam C K (puts (Qi [B,E,F,H]) [(7,ptr l7 0),(8,.int .i64 0),(11,B),(12,M),(13,.bool false),(14,E),(15,O),(16,O),(17,.bool false),(18,F),(19,P),(20,P),(21,.bool false),(22,F),(23,Q),(24,Q),(25,B),(26,E),(27,I),(28,B),(29,E),(30,J),(9,I),(10,J),(31,I),(32,U),(33,J),(34,V),(9,V)]) W X) (
Qam C K (puts (Qi [B,E,F,H]) [(7,ptr l7 0),(8,.int .i64 0),(11,B),(12,M),(13,.bool false),(14,E),(15,O),(16,O),(17,.bool false),(18,F),(19,P),(20,P),(21,.bool false),(22,F),(23,Q),(24,Q),(25,B),(26,E),(27,I),(28,B),(29,E),(30,J),(9,I),(10,J),(31,I),(32,U)]) R T)))))
theorem ZcR (C:CT) (j I E J:Value) (g:G) (n:Nat) (K:Cont):Jb6 C j I E J g n K=Qe Tryz.prog C QN [j,I,E,J] g n K:=by kernel_rfl
def JcL (C:CT) (B:Value) (g:G) (n:Nat) (K:Cont):Prop:=
Jb .ptr .eql B (.pointer none) λE=>
Qa E (
Zc K (.int .i64 0) g n) (
Xf B λB=>
Xc B λl7 B=>
kLd g l7 (B+0) λB=>
Jak B λB=>
Zc K B g n)
theorem Xdl (C:CT) (j:Value) (g:G) (n:Nat) (K:Cont):JcL C j g n K=Qe Tryz.prog C XaA [j] g n K:=by kernel_rfl
def Xdw (C:CT) (K:Cont) (t:Env) (g:G) (n:Nat):Prop:=
Qa (t 87) (
Xc (t 1) λB E=>
kLd g B (E+13) λB=>
C QaW [B] g n λB E F=>
Zc K B E F) (
Zc K (.bool false) g n)
def XQ (C:CT) (K:Cont) (t:Env) (g:G) (n:Nat):Prop:=
Qa (t 76) (
Xc (t 1) λB E=>
kLd g B (E+13) λB=>
C QaW [B] g n λB E F=>
Qa B (
Xc (t 1) λB H=>
kLd E B (H+14) λB=>
Jb .int .neq B (.int .u8 0) λB=>
Zc K B E F) (
Zc K (.bool false) E F)) (
Jb .int .eql (t 65) (.int .i64 4) λB=>
Qa B (
Xdw C K (puts t [(88,B),(87,B)]) g n) (
Jb .int .eql (t 65) (.int .i64 5) λE=>
Xdw C K (puts t [(88,B),(87,B),(89,E),(87,E)]) g n))
def Xfl (C:CT) (B:Value) (g:G) (n:Nat) (K:Cont):Prop:=
Jj B λc1=>
Zl c1 .exact g n λl1 E n1=>
kLd E l1 (0+10) λF=>
Jb .int .geq F (.int .i64 0) λH=>
Qa H (
kLd E l1 (0+10) λI=>
Jb .int .lss I (.int .i64 (-1)) λJ=>
Qa J (
Zc K (.bool false) E n1) (
kLd E l1 (0+10) λM=>
Jb .int .geq M (.int .i64 8) λO=>
Qa O (
Zc K (.bool false) E n1) (
kLd E l1 (0+10) λP=>
Jb .int .geq P (.int .i64 0) λQ=>
Qa Q (
kLd E l1 (0+11) λR=>
Jb .int .neq R (.int .u8 0) λT=>
Qa T (
Zc K (.bool false) E n1) (
kLd E l1 (0+0) λU=>
kUn .not U λV=>
Qa V (
kLd E l1 (0+1) λW=>
Qa W (
Zc K (.bool false) E n1) (
Zc K (.bool false) E n1)) (
kLd E l1 (0+14) λX=>
kLd E l1 (0+11) λY=>
kLd E l1 (0+10) λZ=>
C Jv [Z] E n1 λj t w=>
(Xc (ptr l1 (0+14)) λl _=>t l=E l)∧(Xc (ptr l1 (0+11)) λl _=>t l=E l)∧Jb .int .or Y j λAA=>
Jb .int .andNot X AA λAB=>
Jb .int .neq AB (.int .u8 0) λAD=>
Qa AD (
Zc K (.bool false) t w) (
kLd t l1 (0+12) λAE=>
Jb .int .eql AE (.int .i64 0) λAF=>
Qa AF (
kLd t l1 (0+13) λAG=>
Jb .int .eql AG (.int .i64 0) λAH=>
Qa AH (
kLd t l1 (0+14) λAI=>
Jb .int .eql AI (.int .u8 0) λAJ=>
Zc K AJ t w) (
Zc K (.bool false) t w)) (
Jb .int .eql AE (.int .i64 1) λAL=>
Qa AL (
XQ C K (puts (Qi [B]) [(1,ptr l1 0),(2,.bool false),(4,(ptr l1 (0+10))),(5,F),(6,H),(7,.bool true),(8,undef),(9,undef),(10,undef),(11,.bool true),(3,.bool true),(13,(ptr l1 (0+10))),(14,I),(15,J),(16,.bool false),(17,(ptr l1 (0+10))),(18,M),(19,O),(20,O),(21,.bool false),(22,(ptr l1 (0+10))),(23,P),(24,Q),(25,.bool true),(26,(ptr l1 (0+11))),(27,R),(28,T),(29,T),(30,T),(12,T),(32,(ptr l1 (0+0))),(33,U),(34,V),(35,.bool false),(36,undef),(37,undef),(38,undef),(39,undef),(40,undef),(41,undef),(42,undef),(43,undef),(44,undef),(45,undef),(46,undef),(47,undef),(48,undef),(49,undef),(50,undef),(51,undef),(52,.bool false),(31,.bool false),(54,(ptr l1 (0+14))),(55,X),(56,(ptr l1 (0+11))),(57,Y),(58,(ptr l1 (0+10))),(59,Z),(60,j),(61,AA),(62,AB),(63,AD),(53,AD),(64,(ptr l1 (0+12))),(65,AE),(67,AF),(66,AF),(77,AL),(76,AL)]) t w) (
Jb .int .eql AE (.int .i64 2) λAM=>
XQ C K (puts (Qi [B]) [(1,ptr l1 0),(2,.bool false),(4,(ptr l1 (0+10))),(5,F),(6,H),(7,.bool true),(8,undef),(9,undef),(10,undef),(11,.bool true),(3,.bool true),(13,(ptr l1 (0+10))),(14,I),(15,J),(16,.bool false),(17,(ptr l1 (0+10))),(18,M),(19,O),(20,O),(21,.bool false),(22,(ptr l1 (0+10))),(23,P),(24,Q),(25,.bool true),(26,(ptr l1 (0+11))),(27,R),(28,T),(29,T),(30,T),(12,T),(32,(ptr l1 (0+0))),(33,U),(34,V),(35,.bool false),(36,undef),(37,undef),(38,undef),(39,undef),(40,undef),(41,undef),(42,undef),(43,undef),(44,undef),(45,undef),(46,undef),(47,undef),(48,undef),(49,undef),(50,undef),(51,undef),(52,.bool false),(31,.bool false),(54,(ptr l1 (0+14))),(55,X),(56,(ptr l1 (0+11))),(57,Y),(58,(ptr l1 (0+10))),(59,Z),(60,j),(61,AA),(62,AB),(63,AD),(53,AD),(64,(ptr l1 (0+12))),(65,AE),(67,AF),(66,AF),(77,AL),(76,AL),(78,AM),(76,AM)]) t w)))))) (
kLd E l1 (0+0) λU=>
kUn .not U λV=>
Qa V (
kLd E l1 (0+1) λW=>
Qa W (
Zc K (.bool false) E n1) (
Zc K (.bool false) E n1)) (
kLd E l1 (0+14) λX=>
kLd E l1 (0+11) λY=>
kLd E l1 (0+10) λZ=>
C Jv [Z] E n1 λj t w=>
(Xc (ptr l1 (0+14)) λl _=>t l=E l)∧(Xc (ptr l1 (0+11)) λl _=>t l=E l)∧Jb .int .or Y j λAA=>
Jb .int .andNot X AA λAB=>
Jb .int .neq AB (.int .u8 0) λAD=>
Qa AD (
Zc K (.bool false) t w) (
kLd t l1 (0+12) λAE=>
Jb .int .eql AE (.int .i64 0) λAF=>
Qa AF (
kLd t l1 (0+13) λAG=>
Jb .int .eql AG (.int .i64 0) λAH=>
Qa AH (
kLd t l1 (0+14) λAI=>
Jb .int .eql AI (.int .u8 0) λAJ=>
Zc K AJ t w) (
Zc K (.bool false) t w)) (
Jb .int .eql AE (.int .i64 1) λAL=>
Qa AL (
XQ C K (puts (Qi [B]) [(1,ptr l1 0),(2,.bool false),(4,(ptr l1 (0+10))),(5,F),(6,H),(7,.bool true),(8,undef),(9,undef),(10,undef),(11,.bool true),(3,.bool true),(13,(ptr l1 (0+10))),(14,I),(15,J),(16,.bool false),(17,(ptr l1 (0+10))),(18,M),(19,O),(20,O),(21,.bool false),(22,(ptr l1 (0+10))),(23,P),(24,Q),(25,.bool false),(26,undef),(27,undef),(28,undef),(29,.bool false),(30,.bool false),(12,.bool false),(32,(ptr l1 (0+0))),(33,U),(34,V),(35,.bool false),(36,undef),(37,undef),(38,undef),(39,undef),(40,undef),(41,undef),(42,undef),(43,undef),(44,undef),(45,undef),(46,undef),(47,undef),(48,undef),(49,undef),(50,undef),(51,undef),(52,.bool false),(31,.bool false),(54,(ptr l1 (0+14))),(55,X),(56,(ptr l1 (0+11))),(57,Y),(58,(ptr l1 (0+10))),(59,Z),(60,j),(61,AA),(62,AB),(63,AD),(53,AD),(64,(ptr l1 (0+12))),(65,AE),(67,AF),(66,AF),(77,AL),(76,AL)]) t w) (
Jb .int .eql AE (.int .i64 2) λAM=>
XQ C K (puts (Qi [B]) [(1,ptr l1 0),(2,.bool false),(4,(ptr l1 (0+10))),(5,F),(6,H),(7,.bool true),(8,undef),(9,undef),(10,undef),(11,.bool true),(3,.bool true),(13,(ptr l1 (0+10))),(14,I),(15,J),(16,.bool false),(17,(ptr l1 (0+10))),(18,M),(19,O),(20,O),(21,.bool false),(22,(ptr l1 (0+10))),(23,P),(24,Q),(25,.bool false),(26,undef),(27,undef),(28,undef),(29,.bool false),(30,.bool false),(12,.bool false),(32,(ptr l1 (0+0))),(33,U),(34,V),(35,.bool false),(36,undef),(37,undef),(38,undef),(39,undef),(40,undef),(41,undef),(42,undef),(43,undef),(44,undef),(45,undef),(46,undef),(47,undef),(48,undef),(49,undef),(50,undef),(51,undef),(52,.bool false),(31,.bool false),(54,(ptr l1 (0+14))),(55,X),(56,(ptr l1 (0+11))),(57,Y),(58,(ptr l1 (0+10))),(59,Z),(60,j),(61,AA),(62,AB),(63,AD),(53,AD),(64,(ptr l1 (0+12))),(65,AE),(67,AF),(66,AF),(77,AL),(76,AL),(78,AM),(76,AM)]) t w)))))))) (
kLd E l1 (0+11) λt=>
Jb .int .neq t (.int .u8 0) λAN=>
kLd E l1 (0+10) λI=>
Jb .int .lss I (.int .i64 (-1)) λJ=>
Qa J (
Zc K (.bool false) E n1) (
kLd E l1 (0+10) λM=>
Jb .int .geq M (.int .i64 8) λO=>
Qa O (
Zc K (.bool false) E n1) (
kLd E l1 (0+10) λP=>
Jb .int .geq P (.int .i64 0) λQ=>
Qa Q (
kLd E l1 (0+11) λR=>
Jb .int .neq R (.int .u8 0) λT=>
Qa T (
Zc K (.bool false) E n1) (
kLd E l1 (0+0) λU=>
kUn .not U λV=>
Qa V (
kLd E l1 (0+1) λW=>
Qa W (
Zc K (.bool false) E n1) (
Qa AN (
Zc K (.bool false) E n1) (
kLd E l1 (0+12) λAO=>
Jb .int .neq AO (.int .i64 0) λAP=>
Qa AP (
Zc K (.bool false) E n1) (
Ql E l1 (0+2) 8 λAQ=>
Qf [.int .u64 0,.int .u64 0,.int .u64 0,.int .u64 0,.int .u64 0,.int .u64 0,.int .u64 0,.int .u64 0] [] λAR=>
Jb (.agg [.i,.i,.i,.i,.i,.i,.i,.i]) .neq (.agg AQ.toArray) (.agg AR.toArray) λAT=>
Qa AT (
Zc K (.bool false) E n1) (
kLd E l1 (0+14) λX=>
kLd E l1 (0+11) λY=>
kLd E l1 (0+10) λZ=>
C Jv [Z] E n1 λj AU w=>
(Xc (ptr l1 (0+14)) λl _=>AU l=E l)∧(Xc (ptr l1 (0+11)) λl _=>AU l=E l)∧Jb .int .or Y j λAA=>
Jb .int .andNot X AA λAB=>
Jb .int .neq AB (.int .u8 0) λAD=>
Qa AD (
Zc K (.bool false) AU w) (
kLd AU l1 (0+12) λAE=>
Jb .int .eql AE (.int .i64 0) λAF=>
Qa AF (
kLd AU l1 (0+13) λAG=>
Jb .int .eql AG (.int .i64 0) λAH=>
Qa AH (
kLd AU l1 (0+14) λAI=>
Jb .int .eql AI (.int .u8 0) λAJ=>
Zc K AJ AU w) (
Zc K (.bool false) AU w)) (
Jb .int .eql AE (.int .i64 1) λAL=>
Qa AL (
XQ C K (puts (Qi [B]) [(1,ptr l1 0),(2,.bool false),(4,(ptr l1 (0+10))),(5,F),(6,H),(7,.bool false),(8,(ptr l1 (0+11))),(9,t),(10,AN),(11,AN),(3,AN),(13,(ptr l1 (0+10))),(14,I),(15,J),(16,.bool false),(17,(ptr l1 (0+10))),(18,M),(19,O),(20,O),(21,.bool false),(22,(ptr l1 (0+10))),(23,P),(24,Q),(25,.bool true),(26,(ptr l1 (0+11))),(27,R),(28,T),(29,T),(30,T),(12,T),(32,(ptr l1 (0+0))),(33,U),(34,V),(35,.bool true),(36,(ptr l1 (0+1))),(37,W),(38,.bool false),(39,AN),(40,AN),(41,.bool false),(42,(ptr l1 (0+12))),(43,AO),(44,AP),(45,AP),(46,.bool false),(47,(ptr l1 (0+2))),(48,.agg AQ.toArray),(49,.agg AR.toArray),(50,AT),(51,AT),(52,AT),(31,AT),(54,(ptr l1 (0+14))),(55,X),(56,(ptr l1 (0+11))),(57,Y),(58,(ptr l1 (0+10))),(59,Z),(60,j),(61,AA),(62,AB),(63,AD),(53,AD),(64,(ptr l1 (0+12))),(65,AE),(67,AF),(66,AF),(77,AL),(76,AL)]) AU w) (
Jb .int .eql AE (.int .i64 2) λAM=>
XQ C K (puts (Qi [B]) [(1,ptr l1 0),(2,.bool false),(4,(ptr l1 (0+10))),(5,F),(6,H),(7,.bool false),(8,(ptr l1 (0+11))),(9,t),(10,AN),(11,AN),(3,AN),(13,(ptr l1 (0+10))),(14,I),(15,J),(16,.bool false),(17,(ptr l1 (0+10))),(18,M),(19,O),(20,O),(21,.bool false),(22,(ptr l1 (0+10))),(23,P),(24,Q),(25,.bool true),(26,(ptr l1 (0+11))),(27,R),(28,T),(29,T),(30,T),(12,T),(32,(ptr l1 (0+0))),(33,U),(34,V),(35,.bool true),(36,(ptr l1 (0+1))),(37,W),(38,.bool false),(39,AN),(40,AN),(41,.bool false),(42,(ptr l1 (0+12))),(43,AO),(44,AP),(45,AP),(46,.bool false),(47,(ptr l1 (0+2))),(48,.agg AQ.toArray),(49,.agg AR.toArray),(50,AT),(51,AT),(52,AT),(31,AT),(54,(ptr l1 (0+14))),(55,X),(56,(ptr l1 (0+11))),(57,Y),(58,(ptr l1 (0+10))),(59,Z),(60,j),(61,AA),(62,AB),(63,AD),(53,AD),(64,(ptr l1 (0+12))),(65,AE),(67,AF),(66,AF),(77,AL),(76,AL),(78,AM),(76,AM)]) AU w)))))))) (
kLd E l1 (0+14) λX=>
kLd E l1 (0+11) λY=>
kLd E l1 (0+10) λZ=>
C Jv [Z] E n1 λj AU w=>
(Xc (ptr l1 (0+14)) λl _=>AU l=E l)∧(Xc (ptr l1 (0+11)) λl _=>AU l=E l)∧Jb .int .or Y j λAA=>
Jb .int .andNot X AA λAB=>
Jb .int .neq AB (.int .u8 0) λAD=>
Qa AD (
Zc K (.bool false) AU w) (
kLd AU l1 (0+12) λAE=>
Jb .int .eql AE (.int .i64 0) λAF=>
Qa AF (
kLd AU l1 (0+13) λAG=>
Jb .int .eql AG (.int .i64 0) λAH=>
Qa AH (
kLd AU l1 (0+14) λAI=>
Jb .int .eql AI (.int .u8 0) λAJ=>
Zc K AJ AU w) (
Zc K (.bool false) AU w)) (
Jb .int .eql AE (.int .i64 1) λAL=>
Qa AL (
XQ C K (puts (Qi [B]) [(1,ptr l1 0),(2,.bool false),(4,(ptr l1 (0+10))),(5,F),(6,H),(7,.bool false),(8,(ptr l1 (0+11))),(9,t),(10,AN),(11,AN),(3,AN),(13,(ptr l1 (0+10))),(14,I),(15,J),(16,.bool false),(17,(ptr l1 (0+10))),(18,M),(19,O),(20,O),(21,.bool false),(22,(ptr l1 (0+10))),(23,P),(24,Q),(25,.bool true),(26,(ptr l1 (0+11))),(27,R),(28,T),(29,T),(30,T),(12,T),(32,(ptr l1 (0+0))),(33,U),(34,V),(35,.bool false),(36,undef),(37,undef),(38,undef),(39,undef),(40,undef),(41,undef),(42,undef),(43,undef),(44,undef),(45,undef),(46,undef),(47,undef),(48,undef),(49,undef),(50,undef),(51,undef),(52,.bool false),(31,.bool false),(54,(ptr l1 (0+14))),(55,X),(56,(ptr l1 (0+11))),(57,Y),(58,(ptr l1 (0+10))),(59,Z),(60,j),(61,AA),(62,AB),(63,AD),(53,AD),(64,(ptr l1 (0+12))),(65,AE),(67,AF),(66,AF),(77,AL),(76,AL)]) AU w) (
Jb .int .eql AE (.int .i64 2) λAM=>
XQ C K (puts (Qi [B]) [(1,ptr l1 0),(2,.bool false),(4,(ptr l1 (0+10))),(5,F),(6,H),(7,.bool false),(8,(ptr l1 (0+11))),(9,t),(10,AN),(11,AN),(3,AN),(13,(ptr l1 (0+10))),(14,I),(15,J),(16,.bool false),(17,(ptr l1 (0+10))),(18,M),(19,O),(20,O),(21,.bool false),(22,(ptr l1 (0+10))),(23,P),(24,Q),(25,.bool true),(26,(ptr l1 (0+11))),(27,R),(28,T),(29,T),(30,T),(12,T),(32,(ptr l1 (0+0))),(33,U),(34,V),(35,.bool false),(36,undef),(37,undef),(38,undef),(39,undef),(40,undef),(41,undef),(42,undef),(43,undef),(44,undef),(45,undef),(46,undef),(47,undef),(48,undef),(49,undef),(50,undef),(51,undef),(52,.bool false),(31,.bool false),(54,(ptr l1 (0+14))),(55,X),(56,(ptr l1 (0+11))),(57,Y),(58,(ptr l1 (0+10))),(59,Z),(60,j),(61,AA),(62,AB),(63,AD),(53,AD),(64,(ptr l1 (0+12))),(65,AE),(67,AF),(66,AF),(77,AL),(76,AL),(78,AM),(76,AM)]) AU w)))))) (
kLd E l1 (0+0) λU=>
kUn .not U λV=>
Qa V (
kLd E l1 (0+1) λW=>
Qa W (
Zc K (.bool false) E n1) (
Qa AN (
Zc K (.bool false) E n1) (
kLd E l1 (0+12) λAO=>
Jb .int .neq AO (.int .i64 0) λAP=>
Qa AP (
Zc K (.bool false) E n1) (
Ql E l1 (0+2) 8 λAQ=>
Qf [.int .u64 0,.int .u64 0,.int .u64 0,.int .u64 0,.int .u64 0,.int .u64 0,.int .u64 0,.int .u64 0] [] λAR=>
Jb (.agg [.i,.i,.i,.i,.i,.i,.i,.i]) .neq (.agg AQ.toArray) (.agg AR.toArray) λAT=>
Qa AT (
Zc K (.bool false) E n1) (
kLd E l1 (0+14) λX=>
kLd E l1 (0+11) λY=>
kLd E l1 (0+10) λZ=>
C Jv [Z] E n1 λj R w=>
(Xc (ptr l1 (0+14)) λl _=>R l=E l)∧(Xc (ptr l1 (0+11)) λl _=>R l=E l)∧Jb .int .or Y j λAA=>
Jb .int .andNot X AA λAB=>
Jb .int .neq AB (.int .u8 0) λAD=>
Qa AD (
Zc K (.bool false) R w) (
kLd R l1 (0+12) λAE=>
Jb .int .eql AE (.int .i64 0) λAF=>
Qa AF (
kLd R l1 (0+13) λAG=>
Jb .int .eql AG (.int .i64 0) λAH=>
Qa AH (
kLd R l1 (0+14) λAI=>
Jb .int .eql AI (.int .u8 0) λAJ=>
Zc K AJ R w) (
Zc K (.bool false) R w)) (
Jb .int .eql AE (.int .i64 1) λAL=>
Qa AL (
XQ C K (puts (Qi [B]) [(1,ptr l1 0),(2,.bool false),(4,(ptr l1 (0+10))),(5,F),(6,H),(7,.bool false),(8,(ptr l1 (0+11))),(9,t),(10,AN),(11,AN),(3,AN),(13,(ptr l1 (0+10))),(14,I),(15,J),(16,.bool false),(17,(ptr l1 (0+10))),(18,M),(19,O),(20,O),(21,.bool false),(22,(ptr l1 (0+10))),(23,P),(24,Q),(25,.bool false),(26,undef),(27,undef),(28,undef),(29,.bool false),(30,.bool false),(12,.bool false),(32,(ptr l1 (0+0))),(33,U),(34,V),(35,.bool true),(36,(ptr l1 (0+1))),(37,W),(38,.bool false),(39,AN),(40,AN),(41,.bool false),(42,(ptr l1 (0+12))),(43,AO),(44,AP),(45,AP),(46,.bool false),(47,(ptr l1 (0+2))),(48,.agg AQ.toArray),(49,.agg AR.toArray),(50,AT),(51,AT),(52,AT),(31,AT),(54,(ptr l1 (0+14))),(55,X),(56,(ptr l1 (0+11))),(57,Y),(58,(ptr l1 (0+10))),(59,Z),(60,j),(61,AA),(62,AB),(63,AD),(53,AD),(64,(ptr l1 (0+12))),(65,AE),(67,AF),(66,AF),(77,AL),(76,AL)]) R w) (
Jb .int .eql AE (.int .i64 2) λAM=>
XQ C K (puts (Qi [B]) [(1,ptr l1 0),(2,.bool false),(4,(ptr l1 (0+10))),(5,F),(6,H),(7,.bool false),(8,(ptr l1 (0+11))),(9,t),(10,AN),(11,AN),(3,AN),(13,(ptr l1 (0+10))),(14,I),(15,J),(16,.bool false),(17,(ptr l1 (0+10))),(18,M),(19,O),(20,O),(21,.bool false),(22,(ptr l1 (0+10))),(23,P),(24,Q),(25,.bool false),(26,undef),(27,undef),(28,undef),(29,.bool false),(30,.bool false),(12,.bool false),(32,(ptr l1 (0+0))),(33,U),(34,V),(35,.bool true),(36,(ptr l1 (0+1))),(37,W),(38,.bool false),(39,AN),(40,AN),(41,.bool false),(42,(ptr l1 (0+12))),(43,AO),(44,AP),(45,AP),(46,.bool false),(47,(ptr l1 (0+2))),(48,.agg AQ.toArray),(49,.agg AR.toArray),(50,AT),(51,AT),(52,AT),(31,AT),(54,(ptr l1 (0+14))),(55,X),(56,(ptr l1 (0+11))),(57,Y),(58,(ptr l1 (0+10))),(59,Z),(60,j),(61,AA),(62,AB),(63,AD),(53,AD),(64,(ptr l1 (0+12))),(65,AE),(67,AF),(66,AF),(77,AL),(76,AL),(78,AM),(76,AM)]) R w)))))))) (
kLd E l1 (0+14) λX=>
kLd E l1 (0+11) λY=>
kLd E l1 (0+10) λZ=>
C Jv [Z] E n1 λj R w=>
(Xc (ptr l1 (0+14)) λl _=>R l=E l)∧(Xc (ptr l1 (0+11)) λl _=>R l=E l)∧Jb .int .or Y j λAA=>
Jb .int .andNot X AA λAB=>
Jb .int .neq AB (.int .u8 0) λAD=>
Qa AD (
Zc K (.bool false) R w) (
kLd R l1 (0+12) λAE=>
Jb .int .eql AE (.int .i64 0) λAF=>
Qa AF (
kLd R l1 (0+13) λAG=>
Jb .int .eql AG (.int .i64 0) λAH=>
Qa AH (
kLd R l1 (0+14) λAI=>
Jb .int .eql AI (.int .u8 0) λAJ=>
Zc K AJ R w) (
Zc K (.bool false) R w)) (
Jb .int .eql AE (.int .i64 1) λAL=>
Qa AL (
XQ C K (puts (Qi [B]) [(1,ptr l1 0),(2,.bool false),(4,(ptr l1 (0+10))),(5,F),(6,H),(7,.bool false),(8,(ptr l1 (0+11))),(9,t),(10,AN),(11,AN),(3,AN),(13,(ptr l1 (0+10))),(14,I),(15,J),(16,.bool false),(17,(ptr l1 (0+10))),(18,M),(19,O),(20,O),(21,.bool false),(22,(ptr l1 (0+10))),(23,P),(24,Q),(25,.bool false),(26,undef),(27,undef),(28,undef),(29,.bool false),(30,.bool false),(12,.bool false),(32,(ptr l1 (0+0))),(33,U),(34,V),(35,.bool false),(36,undef),(37,undef),(38,undef),(39,undef),(40,undef),(41,undef),(42,undef),(43,undef),(44,undef),(45,undef),(46,undef),(47,undef),(48,undef),(49,undef),(50,undef),(51,undef),(52,.bool false),(31,.bool false),(54,(ptr l1 (0+14))),(55,X),(56,(ptr l1 (0+11))),(57,Y),(58,(ptr l1 (0+10))),(59,Z),(60,j),(61,AA),(62,AB),(63,AD),(53,AD),(64,(ptr l1 (0+12))),(65,AE),(67,AF),(66,AF),(77,AL),(76,AL)]) R w) (
Jb .int .eql AE (.int .i64 2) λAM=>
XQ C K (puts (Qi [B]) [(1,ptr l1 0),(2,.bool false),(4,(ptr l1 (0+10))),(5,F),(6,H),(7,.bool false),(8,(ptr l1 (0+11))),(9,t),(10,AN),(11,AN),(3,AN),(13,(ptr l1 (0+10))),(14,I),(15,J),(16,.bool false),(17,(ptr l1 (0+10))),(18,M),(19,O),(20,O),(21,.bool false),(22,(ptr l1 (0+10))),(23,P),(24,Q),(25,.bool false),(26,undef),(27,undef),(28,undef),(29,.bool false),(30,.bool false),(12,.bool false),(32,(ptr l1 (0+0))),(33,U),(34,V),(35,.bool false),(36,undef),(37,undef),(38,undef),(39,undef),(40,undef),(41,undef),(42,undef),(43,undef),(44,undef),(45,undef),(46,undef),(47,undef),(48,undef),(49,undef),(50,undef),(51,undef),(52,.bool false),(31,.bool false),(54,(ptr l1 (0+14))),(55,X),(56,(ptr l1 (0+11))),(57,Y),(58,(ptr l1 (0+10))),(59,Z),(60,j),(61,AA),(62,AB),(63,AD),(53,AD),(64,(ptr l1 (0+12))),(65,AE),(67,AF),(66,AF),(77,AL),(76,AL),(78,AM),(76,AM)]) R w))))))))
theorem Je6 (C:CT) (j:Value) (g:G) (n:Nat) (K:Cont):Xfl C j g n K=Qe Tryz.prog C Xbd [j] g n K:=by kernel_rfl
def Xfy (C:CT) (B:Value) (g:G) (n:Nat) (K:Cont):Prop:=
Jb .int .geq B (.int .i64 0) λE=>
Qa E (
Jb .int .lss B (.int .i64 8) λB=>
Zc K B g n) (
Zc K (.bool false) g n)
theorem Jff (C:CT) (j:Value) (g:G) (n:Nat) (K:Cont):Xfy C j g n K=Qe Tryz.prog C QaW [j] g n K:=by kernel_rfl
def ZfD (C:CT) (B:Value) (g:G) (n:Nat) (K:Cont):Prop:=
Jb .int .geq B (.int .i64 1) λE=>
Qa E (
Jb .int .leq B (.int .i64 5) λB=>
Zc K B g n) (
Zc K (.bool false) g n)
theorem Zfa (C:CT) (j:Value) (g:G) (n:Nat) (K:Cont):ZfD C j g n K=Qe Tryz.prog C JcD [j] g n K:=by kernel_rfl
def Xfk (C:CT) (g:G) (n:Nat) (K:Cont):Prop:=
Zl [.nilFunc,.nilFunc,.nilFunc,.nilFunc,.nilFunc,.nilFunc] .exact g n λl0 B E=>
Qf [.nilFunc,.nilFunc,.nilFunc,.nilFunc,.nilFunc,.nilFunc] [(1,none,(.func (.func JaB) #[] #[])),(2,none,(.func (.func ZaD) #[] #[])),(3,none,(.func (.func QaO) #[] #[])),(4,none,(.func (.func Jat) #[] #[])),(5,none,(.func (.func QaC) #[] #[]))] λc1=>
Jj (.agg c1.toArray) λF=>
F.length=6∧Qu B l0 0 F λB=>
Ql B l0 0 6 λr0=>
Zc K (.agg r0.toArray) B E
theorem QeZ (C:CT) (g:G) (n:Nat) (K:Cont):Xfk C g n K=Qe Tryz.prog C QcF [] g n K:=by kernel_rfl
def JeC (C:CT) (B:Value) (g:G) (n:Nat) (K:Cont):Prop:=
Jb .int .geq B (.int .i64 8) λE=>
Qa E (
Jb .int .leq B (.int .i64 14) λB=>
Zc K B g n) (
Zc K (.bool false) g n)
theorem XeQ (C:CT) (j:Value) (g:G) (n:Nat) (K:Cont):JeC C j g n K=Qe Tryz.prog C Xb9 [j] g n K:=by kernel_rfl
def Zag (C:CT) (K:Cont) (t:Env) (g:G) (n:Nat):Prop:=
Jb .int .geq (t 5) (.int .i64 0) λB=>
Zc K B g n
def XbZ (C:CT) (B E:Value) (g:G) (n:Nat) (K:Cont):Prop:=
C JW [B,E] g n λF H I=>
Jb .int .geq F (.int .i64 0) λJ=>
Qa J (
C ZB [B,E] H I λM O P=>
Qf [.int .i64 0,.int .i64 0,.int .u64 0,.int .u64 0,.int .u64 0,.int .u64 0,.int .u64 0,.int .u64 0,.int .u64 0,.int .u64 0,.int .i64 0] [] λQ=>
Jd M F 11 λR=>
Xc R λT U=>
Jj (.agg Q.toArray) λV=>
V.length=11∧Qu O T U V λO=>
Zag C K (puts (Qi [B,E]) [(4,.bool false),(6,B),(7,E),(8,F),(5,F),(9,F),(10,J),(11,B),(12,E),(13,M),(14,F),(15,.agg Q.toArray),(16,R)]) O P) (
Zag C K (puts (Qi [B,E]) [(4,.bool false),(6,B),(7,E),(8,F),(5,F),(9,F),(10,J)]) H I)
theorem ZcE (C:CT) (j E:Value) (g:G) (n:Nat) (K:Cont):XbZ C j E g n K=Qe Tryz.prog C XaE [j,E] g n K:=by kernel_rfl
def Zac (C:CT) (K:Cont) (t:Env) (g:G) (n:Nat):Prop:=
Xc (t 7) λB E=>
Ql g B E 12 λB=>
Qf (reps 1 [.int .i64 0,.int .i64 0,.bool false,.bool false,.int .u64 0,.int .u64 0,.int .u64 0,.int .u64 0,.int .u64 0,.int .u64 0,.int .u64 0,.int .u64 0]) [(0,some 12,.agg B.toArray)] λB=>
Zl B .exact g n λB E F=>
Zc K (.slice (some ⟨B,0,none⟩) 1 1) E F
def QaQ (C:CT) (K:Cont) (t:Env) (g:G) (n:Nat):Prop:=
Xc (t 4) λB E=>
kLd g B (E+0) λF=>
Jb .int .eql F (.int .i64 3) λH=>
Qa H (
Xc (t 4) λI J=>
Ql g I (J+2) 8 λM=>
Xc (t 7) λO P=>
kSt g O (P+2) (.bool true) λQ=>
(Xc (ptr I (J+2)) λl _=>Q l=g l)∧Xc (t 7) λR T=>
Jj (.agg M.toArray) λU=>
U.length=8∧Qu Q R (T+4) U λQ=>
Zac C K (puts t [(22,(ptr B (E+0))),(23,F),(24,H),(25,.bool true),(26,undef),(27,undef),(28,undef),(29,.bool true),(30,(ptr I (J+2))),(31,.agg M.toArray),(32,(ptr O (P+2))),(33,(ptr R (T+4)))]) Q n) (
Xc (t 4) λQ U=>
kLd g Q (U+0) λV=>
Jb .int .eql V (.int .i64 9) λW=>
Qa W (
Xc (t 4) λI J=>
Ql g I (J+2) 8 λM=>
Xc (t 7) λO P=>
kSt g O (P+2) (.bool true) λX=>
(Xc (ptr I (J+2)) λl _=>X l=g l)∧Xc (t 7) λR T=>
Jj (.agg M.toArray) λY=>
Y.length=8∧Qu X R (T+4) Y λX=>
Zac C K (puts t [(22,(ptr B (E+0))),(23,F),(24,H),(25,.bool false),(26,(ptr Q (U+0))),(27,V),(28,W),(29,W),(30,(ptr I (J+2))),(31,.agg M.toArray),(32,(ptr O (P+2))),(33,(ptr R (T+4)))]) X n) (
Zac C K (puts t [(22,(ptr B (E+0))),(23,F),(24,H),(25,.bool false),(26,(ptr Q (U+0))),(27,V),(28,W),(29,W)]) g n))
def Zdc (C:CT) (B E F:Value) (g:G) (n:Nat) (K:Cont):Prop:=
Jj B λc3=>
Zl c3 .exact g n λl3 H n3=>
Jj E λc4=>
Zl c4 .exact H n3 λl4 H I=>
kLd H l3 (0+1) λJ=>
Qf [.int .i64 0,.int .i64 0,.bool false,.bool false,.int .u64 0,.int .u64 0,.int .u64 0,.int .u64 0,.int .u64 0,.int .u64 0,.int .u64 0,.int .u64 0] [(1,none,J)] λM=>
Zl [.int .i64 0,.int .i64 0,.bool false,.bool false,.int .u64 0,.int .u64 0,.int .u64 0,.int .u64 0,.int .u64 0,.int .u64 0,.int .u64 0,.int .u64 0] .exact H I λl7 H I=>
Jj (.agg M.toArray) λO=>
O.length=12∧Qu H l7 0 O λH=>
kLd H l3 (0+0) λO=>
Jb .int .eql O (.int .i64 12) λP=>
Qa P (
kSt H l7 (0+0) (.int .i64 6) λQ=>
QaQ C K (puts (Qi [B,E,F]) [(3,ptr l3 0),(4,ptr l4 0),(6,.slice none 0 0),(8,(ptr l3 (0+1))),(9,J),(10,.agg M.toArray),(7,ptr l7 0),(11,(ptr l3 (0+0))),(12,O),(14,P),(13,P),(15,(ptr l7 (0+0)))]) Q I) (
Jb .int .eql O (.int .i64 13) λQ=>
Qa Q (
Jb .int .eql F (.int .i64 1) λR=>
kSt H l7 (0+0) (.int .i64 7) λT=>
kSt T l7 (0+3) R λT=>
QaQ C K (puts (Qi [B,E,F]) [(3,ptr l3 0),(4,ptr l4 0),(6,.slice none 0 0),(8,(ptr l3 (0+1))),(9,J),(10,.agg M.toArray),(7,ptr l7 0),(11,(ptr l3 (0+0))),(12,O),(14,P),(13,P),(17,Q),(16,Q),(18,F),(19,R),(20,(ptr l7 (0+0))),(21,(ptr l7 (0+3)))]) T I) (
Zc K (.slice none 0 0) H I))
theorem QdA (C:CT) (j I E:Value) (g:G) (n:Nat) (K:Cont):Zdc C j I E g n K=Qe Tryz.prog C QaN [j,I,E] g n K:=by kernel_rfl
def QdK (C:CT) (B:Value) (g:G) (n:Nat) (K:Cont):Prop:=
Jb .int .eql B (.int .i64 6) λE=>
Qa E (
Zc K (.bool true) g n) (
Jb .int .eql B (.int .i64 7) λB=>
Zc K B g n)
theorem ZdT (C:CT) (j:Value) (g:G) (n:Nat) (K:Cont):QdK C j g n K=Qe Tryz.prog C Zbv [j] g n K:=by kernel_rfl
def Zfr (C:CT) (B E:Value) (g:G) (n:Nat) (K:Cont):Prop:=
C Jv [E] g n λE F H=>
Jb .int .and B E λB=>
Jb .int .neq B (.int .u8 0) λB=>
Zc K B F H
theorem Je0 (C:CT) (j E:Value) (g:G) (n:Nat) (K:Cont):Zfr C j E g n K=Qe Tryz.prog C QbT [j,E] g n K:=by kernel_rfl
def Xft (C:CT) (B:Value) (g:G) (n:Nat) (K:Cont):Prop:=
Jb .int .lss B (.int .i64 0) λE=>
Qa E (
Zc K (.int .u8 0) g n) (
Jb .int .geq B (.int .i64 8) λE=>
Qa E (
Zc K (.int .u8 0) g n) (
Jb .int .shl (.int .u8 1) B λB=>
Zc K B g n))
theorem Ze7 (C:CT) (j:Value) (g:G) (n:Nat) (K:Cont):Xft C j g n K=Qe Tryz.prog C Jv [j] g n K:=by kernel_rfl
def QcW (C:CT) (B E:Value) (g:G) (n:Nat) (K:Cont):Prop:=
Jj E λc3=>
Zl c3 .exact g n λl3 E n3=>
kLd E l3 (0+2) λF=>
Qa F (
Ql E l3 (0+4) 8 λF=>
Xf B λH=>
Xc H λH I=>
Jj (.agg F.toArray) λF=>
F.length=8∧Qu E H (I+0+2) F λF=>
Xf B λB=>
Xc B λB H=>
kSt F B (H+0+1) (.bool true) λB=>
Zc K (.tuple #[]) B n3) (
Zc K (.tuple #[]) E n3)
theorem Qdk (C:CT) (j E:Value) (g:G) (n:Nat) (K:Cont):QcW C j E g n K=Qe Tryz.prog C ZaC [j,E] g n K:=by kernel_rfl
def ZcK (C:CT) (B:Value) (g:G) (n:Nat) (K:Cont):Prop:=
Xf B λE=>
Xc E λl6 E=>
kSt g l6 (E+0+12) (.int .i64 0) λE=>
Xf B λF=>
Xc F λF H=>
kSt E F (H+0+13) (.int .i64 0) λE=>
Xf B λB=>
Xc B λB F=>
kSt E B (F+0+14) (.int .u8 0) λB=>
Zc K (.tuple #[]) B n
theorem Zdm (C:CT) (j:Value) (g:G) (n:Nat) (K:Cont):ZcK C j g n K=Qe Tryz.prog C Zai [j] g n K:=by kernel_rfl
def XcL (C:CT) (B E:Value) (g:G) (n:Nat) (K:Cont):Prop:=
Xf B λF=>
Xc F λl6 F=>
kLd g l6 (F+0+11) λH=>
C Jv [E] g n λI J M=>
(Xc (ptr l6 (F+0+11)) λl _=>J l=g l)∧Jb .int .or H I λF=>
Xf B λH=>
Xc H λH I=>
kSt J H (I+0+11) F λF=>
C ZQ [B,E,.int .i64 8] F M λB B E=>
Zc K (.tuple #[]) B E
theorem Qdl (C:CT) (j E:Value) (g:G) (n:Nat) (K:Cont):XcL C j E g n K=Qe Tryz.prog C Zaj [j,E] g n K:=by kernel_rfl
def Zdg (C:CT) (B E F:Value) (g:G) (n:Nat) (K:Cont):Prop:=
Xf B λH=>
Xc H λH I=>
kSt g H (I+0+10) E λH=>
Xf B λI=>
Xc I λI J=>
kSt H I (J+0+11) (.int .u8 0) λH=>
C ZQ [B,E,F] H n λB B E=>
Zc K (.tuple #[]) B E
theorem JdN (C:CT) (j I E:Value) (g:G) (n:Nat) (K:Cont):Zdg C j I E g n K=Qe Tryz.prog C Qad [j,I,E] g n K:=by kernel_rfl
def XdM (C:CT) (B E:Value) (g:G) (n:Nat) (K:Cont):Prop:=
Jb .int .neq B (.int .i64 1) λF=>
Qa F (
Jb .int .neq B (.int .i64 2) λF=>
Qa F (
Jb .int .neq B (.int .i64 4) λF=>
Qa F (
Jb .int .neq B (.int .i64 8) λF=>
Qa F (
Zc K (.tuple #[.pointer none,.int .i64 1]) g n) (
Jb .int .lss E (.int .i64 1) λF=>
Qa F (
Zc K (.tuple #[.pointer none,.int .i64 1]) g n) (
Jb .int .gtr E (.int .i64 8) λH=>
Qa H (
Zc K (.tuple #[.pointer none,.int .i64 1]) g n) (
Jb .int .mul B E λI=>
Zcr I I [.int .i64 0,.int .i64 0,.int .u64 0,.int .u64 0,.int .u64 0,.int .u64 0,.int .u64 0,.int .u64 0,.int .u64 0,.int .u64 0,.int .i64 0] 88 g n λJ M O=>
Qf [.int .i64 0,.int .i64 0,.slice none 0 0,.int .i64 0] [(0,none,B),(1,none,E),(2,none,J)] λP=>
Jj (.agg P.toArray) λQ=>
Zl Q .exact M O λM R T=>
Zc K (.tuple #[ptr M 0,.int .i64 0]) R T)))) (
Jb .int .lss E (.int .i64 1) λF=>
Qa F (
Zc K (.tuple #[.pointer none,.int .i64 1]) g n) (
Jb .int .gtr E (.int .i64 8) λH=>
Qa H (
Zc K (.tuple #[.pointer none,.int .i64 1]) g n) (
Jb .int .mul B E λI=>
Zcr I I [.int .i64 0,.int .i64 0,.int .u64 0,.int .u64 0,.int .u64 0,.int .u64 0,.int .u64 0,.int .u64 0,.int .u64 0,.int .u64 0,.int .i64 0] 88 g n λJ R O=>
Qf [.int .i64 0,.int .i64 0,.slice none 0 0,.int .i64 0] [(0,none,B),(1,none,E),(2,none,J)] λP=>
Jj (.agg P.toArray) λQ=>
Zl Q .exact R O λM R T=>
Zc K (.tuple #[ptr M 0,.int .i64 0]) R T)))) (
Jb .int .lss E (.int .i64 1) λF=>
Qa F (
Zc K (.tuple #[.pointer none,.int .i64 1]) g n) (
Jb .int .gtr E (.int .i64 8) λH=>
Qa H (
Zc K (.tuple #[.pointer none,.int .i64 1]) g n) (
Jb .int .mul B E λI=>
Zcr I I [.int .i64 0,.int .i64 0,.int .u64 0,.int .u64 0,.int .u64 0,.int .u64 0,.int .u64 0,.int .u64 0,.int .u64 0,.int .u64 0,.int .i64 0] 88 g n λJ R O=>
Qf [.int .i64 0,.int .i64 0,.slice none 0 0,.int .i64 0] [(0,none,B),(1,none,E),(2,none,J)] λP=>
Jj (.agg P.toArray) λQ=>
Zl Q .exact R O λM R T=>
Zc K (.tuple #[ptr M 0,.int .i64 0]) R T)))) (
Jb .int .lss E (.int .i64 1) λF=>
Qa F (
Zc K (.tuple #[.pointer none,.int .i64 1]) g n) (
Jb .int .gtr E (.int .i64 8) λH=>
Qa H (
Zc K (.tuple #[.pointer none,.int .i64 1]) g n) (
Jb .int .mul B E λI=>
Zcr I I [.int .i64 0,.int .i64 0,.int .u64 0,.int .u64 0,.int .u64 0,.int .u64 0,.int .u64 0,.int .u64 0,.int .u64 0,.int .u64 0,.int .i64 0] 88 g n λJ F O=>
Qf [.int .i64 0,.int .i64 0,.slice none 0 0,.int .i64 0] [(0,none,B),(1,none,E),(2,none,J)] λP=>
Jj (.agg P.toArray) λQ=>
Zl Q .exact F O λM B T=>
Zc K (.tuple #[ptr M 0,.int .i64 0]) B T)))
theorem XeA (C:CT) (j E:Value) (g:G) (n:Nat) (K:Cont):XdM C j E g n K=Qe Tryz.prog C Xcd [j,E] g n K:=by kernel_rfl
def Zb0 (C:CT) (B E:Value) (g:G) (n:Nat) (K:Cont):Prop:=
Zl [.int .i64 0,.int .i64 0,.int .u64 0,.int .u64 0,.int .u64 0,.int .u64 0,.int .u64 0,.int .u64 0,.int .u64 0,.int .u64 0,.int .i64 0] .exact g n λl4 F H=>
C JW [B,E] F H λF H I=>
Jb .int .lss F (.int .i64 0) λJ=>
Qa J (
Qf [.int .i64 0,.int .i64 0,.int .u64 0,.int .u64 0,.int .u64 0,.int .u64 0,.int .u64 0,.int .u64 0,.int .u64 0,.int .u64 0,.int .i64 0] [] λJ=>
Jj (.agg J.toArray) λJ=>
J.length=11∧Qu H l4 0 J λJ=>
Ql J l4 0 11 λr0=>
Zc K (.tuple #[.agg r0.toArray,.bool false]) J I) (
C ZB [B,E] H I λB E H=>
Jd B F 11 λB=>
Xc B λB F=>
Ql E B F 11 λB=>
Jj (.agg B.toArray) λB=>
B.length=11∧Qu E l4 0 B λB=>
Ql B l4 0 11 λr0=>
Zc K (.tuple #[.agg r0.toArray,.bool true]) B H)
theorem Jcy (C:CT) (j E:Value) (g:G) (n:Nat) (K:Cont):Zb0 C j E g n K=Qe Tryz.prog C QaG [j,E] g n K:=by kernel_rfl
def Qcu (C:CT) (B E:Value) (g:G) (n:Nat) (K:Cont):Prop:=
isCell E=true∧Zl [E] .exact g n λl3 E n3=>
Jb .ptr .eql B (.pointer none) λF=>
Qa F (
Zc K (.int .i64 (-1)) E n3) (
kLd E l3 0 λF=>
Jb .int .lss F (.int .i64 0) λF=>
Qa F (
Zc K (.int .i64 (-1)) E n3) (
kLd E l3 0 λF=>
C ZB [B,F] E n3 λB E F=>
C Jh [B,(.func (.func XaG) #[] #[ptr l3 0])] E F λB E F=>
Zc K B E F))
theorem Qc8 (C:CT) (j E:Value) (g:G) (n:Nat) (K:Cont):Qcu C j E g n K=Qe Tryz.prog C JW [j,E] g n K:=by kernel_rfl
def Jbo (C:CT) (B:Value) (g:G) (n:Nat) (K:Cont):Prop:=
Xf B λE=>
Xc E λl5 o5=>
kLd g l5 (o5+3) λE=>
Jb .int .add E (.int .i64 1) λE=>
Xf B λF=>
Xc F λF H=>
kSt g F (H+3) E λE=>
Xf B λB=>
Xc B λB F=>
kLd E B (F+3) λB=>
Zc K B E n
theorem Zch (C:CT) (j:Value) (g:G) (n:Nat) (K:Cont):Jbo C j g n K=Qe Tryz.prog C J4 [j] g n K:=by kernel_rfl
def Qb9 (C:CT) (B E:Value) (g:G) (n:Nat) (K:Cont):Prop:=
Xf B λF=>
Xc F λF H=>
kLd g F (H+0) λF=>
Xf B λH=>
Xc H λH I=>
kLd g H (I+1) λJ=>
C ZcC [F,E] g n λE F M=>
(Xc (ptr H (I+1)) λl _=>F l=g l)∧Jb .int .mul E J λE=>
Xf B λH=>
Xc H λH I=>
kLd F H (I+2) λH=>
Xf B λI=>
Xc I λI J=>
kLd F I (J+1) λI=>
Jb .int .add E I λI=>
Xf B λB=>
Xc B λB J=>
kLd F B (J+1) λB=>
Jb .int .add E B λB=>
Xx H (some E) (some I) (some B) 11 λB=>
Zc K B F M
theorem JcO (C:CT) (j E:Value) (g:G) (n:Nat) (K:Cont):Qb9 C j E g n K=Qe Tryz.prog C ZB [j,E] g n K:=by kernel_rfl
def JY (C:CT) (K:Cont) (I_l1:Qk) (t:Env) (g:G) (n:Nat):Prop:=
Qa (t 27) (
Jb .int .lss (t 5) (.int .i64 0) λB=>
Qa B (
Xc (t 8) λE F=>
kLd g E (F+1) λH=>
Xc (t 8) λI J=>
kLd g I (J+10) λM=>
Jb .int .add (t 19) (.int .i64 1) λO=>
I_l1 (puts t [(31,t 5),(32,B),(33,.bool true),(34,undef),(35,undef),(36,undef),(37,undef),(38,.bool true),(39,(ptr E (F+1))),(40,H),(41,(ptr I (J+10))),(42,M),(5,H),(6,M),(43,O),(19,O)]) g n) (
Xc (t 8) λP Q=>
kLd g P (Q+10) λR=>
Jb .int .lss R (t 6) λT=>
Qa T (
Xc (t 8) λE F=>
kLd g E (F+1) λH=>
Xc (t 8) λI J=>
kLd g I (J+10) λM=>
Jb .int .add (t 19) (.int .i64 1) λO=>
I_l1 (puts t [(31,t 5),(32,B),(33,.bool false),(34,(ptr P (Q+10))),(35,R),(36,t 6),(37,T),(38,T),(39,(ptr E (F+1))),(40,H),(41,(ptr I (J+10))),(42,M),(5,H),(6,M),(43,O),(19,O)]) g n) (
Jb .int .add (t 19) (.int .i64 1) λO=>
I_l1 (puts t [(31,t 5),(32,B),(33,.bool false),(34,(ptr P (Q+10))),(35,R),(36,t 6),(37,T),(38,T),(43,O),(19,O)]) g n))) (
Jb .int .add (t 19) (.int .i64 1) λO=>
I_l1 (puts t [(43,O),(19,O)]) g n)
def Zbk (C:CT) (K:Cont) (t:Env) (g:G) (n:Nat):Prop:=
Zc K (.tuple #[.bool false,t 5]) g n
def Zbg (C:CT) (K:Cont) (I_l1:Qk) (t:Env) (g:G) (n:Nat):Prop:=
Jb .int .lss (t 19) (t 18) λB=>
Qa B (
Jd (t 17) (t 19) 11 λE=>
Xc E λF H=>
Ql g F H 11 λF=>
Zl [.int .i64 0,.int .i64 0,.int .u64 0,.int .u64 0,.int .u64 0,.int .u64 0,.int .u64 0,.int .u64 0,.int .u64 0,.int .u64 0,.int .i64 0] .exact g n λH I J=>
Jj (.agg F.toArray) λM=>
M.length=11∧Qu I H 0 M λI=>
kLd I H (0+0) λM=>
Jb .int .eql M (.int .i64 0) λO=>
Qa O (
Zc K (.tuple #[.bool true,(.int .i64 (-1))]) I J) (
Jb .int .eql M (.int .i64 1) λP=>
Qa P (
JY C K I_l1 (puts t [(20,B),(21,E),(22,.agg F.toArray),(8,ptr H 0),(23,(ptr H (0+0))),(24,M),(26,O),(25,O),(28,P),(27,P)]) I J) (
Jb .int .eql M (.int .i64 2) λQ=>
Qa Q (
JY C K I_l1 (puts t [(20,B),(21,E),(22,.agg F.toArray),(8,ptr H 0),(23,(ptr H (0+0))),(24,M),(26,O),(25,O),(28,P),(27,P),(29,Q),(27,Q)]) I J) (
Jb .int .eql M (.int .i64 3) λR=>
JY C K I_l1 (puts t [(20,B),(21,E),(22,.agg F.toArray),(8,ptr H 0),(23,(ptr H (0+0))),(24,M),(26,O),(25,O),(28,P),(27,P),(29,Q),(27,Q),(30,R),(27,R)]) I J)))) (
Zbk C K (puts t [(20,B)]) g n)
def JbU (C:CT) (B E:Value) (g:G) (n:Nat) (K:Cont):Prop:=
Jb .ptr .eql B (.pointer none) λF=>
Qa F (
Zc K (.tuple #[.bool false,(.int .i64 (-1))]) g n) (
Jb .int .lss E (.int .i64 0) λH=>
Qa H (
Zc K (.tuple #[.bool false,(.int .i64 (-1))]) g n) (
C ZB [B,E] g n λI J M=>
Jak I λO=>
lfp (Zbg C K) (puts (Qi [B,E]) [(4,.bool false),(5,.int .i64 0),(9,B),(10,F),(11,.bool false),(12,E),(13,H),(14,H),(5,(.int .i64 (-1))),(6,.int .i64 0),(15,B),(16,E),(17,I),(18,O),(19,.int .i64 0)]) J M))
theorem XcH (C:CT) (j E:Value) (g:G) (n:Nat) (K:Cont):JbU C j E g n K=Qe Tryz.prog C ZaH [j,E] g n K:=by kernel_rfl
def QaA (C:CT) (K:Cont) (t:Env) (g:G) (n:Nat):Prop:=
Xf (t 0) λB=>
Xc B λB E=>
kLd g B (E+16) λF=>
Xc (t 6) λH I=>
Ql g H I 12 λH=>
Qf [.int .i64 0,.int .i64 0,.int .i64 0,.bool false,.bool false,.int .u64 0,.int .u64 0,.int .u64 0,.int .u64 0,.int .u64 0,.int .u64 0,.int .u64 0,.int .u64 0] [(0,none,t 1),(1,some 12,.agg H.toArray)] λH=>
Qf (reps 1 [.int .i64 0,.int .i64 0,.int .i64 0,.bool false,.bool false,.int .u64 0,.int .u64 0,.int .u64 0,.int .u64 0,.int .u64 0,.int .u64 0,.int .u64 0,.int .u64 0]) [(0,some 13,.agg H.toArray)] λH=>
Zl H .exact g n λH I J=>
(Xc (ptr B (E+16)) λl _=>I l=g l)∧Zs F (.slice (some ⟨H,0,none⟩) 1 1) 13 96 I J λB E F=>
Xf (t 0) λH=>
Xc H λH I=>
kSt E H (I+16) B λB=>
Zc K (.tuple #[]) B F
def Xai (C:CT) (K:Cont) (t:Env) (g:G) (n:Nat):Prop:=
Qa (t 14) (
Xf (t 0) λB=>
Xc B λE F=>
Ql g E (F+0+2) 8 λH=>
Xc (t 6) λI J=>
Jj (.agg H.toArray) λM=>
M.length=8∧Qu g I (J+4) M λM=>
QaA C K (puts t [(18,t 0),(19,B),(20,(ptr E (F+0))),(21,(ptr E (F+0+2))),(22,.agg H.toArray),(23,(ptr I (J+4)))]) M n) (
QaA C K t g n)
def ZcS (C:CT) (B E F:Value) (g:G) (n:Nat) (K:Cont):Prop:=
Xf B λH=>
Xc H λI J=>
kLd g I (J+15) λM=>
Qf [.int .i64 0,.int .i64 0,.bool false,.bool false,.int .u64 0,.int .u64 0,.int .u64 0,.int .u64 0,.int .u64 0,.int .u64 0,.int .u64 0,.int .u64 0] [(0,none,F),(1,none,M)] λO=>
Zl [.int .i64 0,.int .i64 0,.bool false,.bool false,.int .u64 0,.int .u64 0,.int .u64 0,.int .u64 0,.int .u64 0,.int .u64 0,.int .u64 0,.int .u64 0] .exact g n λl6 P Q=>
Jj (.agg O.toArray) λR=>
R.length=12∧Qu P l6 0 R λP=>
Jb .int .eql F (.int .i64 8) λR=>
Qa R (
Xai C K (puts (Qi [B,E,F]) [(7,F),(8,B),(9,H),(10,(ptr I (J+15))),(11,M),(12,.agg O.toArray),(6,ptr l6 0),(13,F),(15,R),(14,R)]) P Q) (
Jb .int .eql F (.int .i64 9) λT=>
Qa T (
Xai C K (puts (Qi [B,E,F]) [(7,F),(8,B),(9,H),(10,(ptr I (J+15))),(11,M),(12,.agg O.toArray),(6,ptr l6 0),(13,F),(15,R),(14,R),(16,T),(14,T)]) P Q) (
Jb .int .eql F (.int .i64 10) λU=>
Xai C K (puts (Qi [B,E,F]) [(7,F),(8,B),(9,H),(10,(ptr I (J+15))),(11,M),(12,.agg O.toArray),(6,ptr l6 0),(13,F),(15,R),(14,R),(16,T),(14,T),(17,U),(14,U)]) P Q))
theorem Jdl (C:CT) (j I E:Value) (g:G) (n:Nat) (K:Cont):ZcS C j I E g n K=Qe Tryz.prog C ZQ [j,I,E] g n K:=by kernel_rfl
def QL (C:CT) (K:Cont) (I_l1:Qk) (t:Env) (g:G) (n:Nat):Prop:=
Jb .int .lss (t 8) (t 7) λB=>
Qa B (
Jd (t 0) (t 8) 9 λE=>
Xc E λF H=>
Ql g F H 9 λF=>
Qbu C (t 1) [.agg F.toArray] g n λH I J=>
Qa H (
Zc K (t 8) I J) (
Jb .int .add (t 8) (.int .i64 1) λM=>
I_l1 (puts t [(9,B),(10,t 8),(5,t 8),(11,t 1),(12,t 0),(13,t 8),(14,E),(15,.agg F.toArray),(16,H),(18,M),(8,M)]) I J)) (
Zc K (.int .i64 (-1)) g n)
def XW (C:CT) (B E:Value) (g:G) (n:Nat) (K:Cont):Prop:=
Jak B λF=>
lfp (QL C K) (puts (Qi [B,E]) [(4,.int .i64 0),(6,B),(7,F),(8,.int .i64 0)]) g n
theorem Zao (C:CT) (j E:Value) (g:G) (n:Nat) (K:Cont):XW C j E g n K=Qe Tryz.prog C Qx [j,E] g n K:=by kernel_rfl
def XbE (C:CT) (B E:Value) (g:G) (n:Nat) (K:Cont):Prop:=
Jj B λc2=>
Zl c2 .exact g n λl2 B n2=>
kLd B l2 (0+0) λF=>
Xc E λl6 E=>
kLd B l6 E λE=>
Jb .int .eql F E λE=>
Zc K E B n2
theorem Qco (C:CT) (j E:Value) (g:G) (n:Nat) (K:Cont):XbE C j E g n K=Qe Tryz.prog C ZA [j,E] g n K:=by kernel_rfl
def Xb0 (C:CT) (B E F:Value) (g:G) (n:Nat) (K:Cont):Prop:=
Jj F λc5=>
Zl c5 .exact g n λl5 F n5=>
C Jac [B,E] F n5 λF H I=>
Jb .int .neq F (.int .i64 0) λJ=>
Qa J (
Zc K F H I) (
Xf B λF=>
Xc F λF J=>
C ZD [(ptr F (J+3)),.int .i64 1] H I λF F H=>
Xf B λB=>
Xc B λB I=>
kLd F B (I+0) λB=>
Ql F l5 0 8 λI=>
Jd B E 8 λB=>
Xc B λB E=>
Jj (.agg I.toArray) λI=>
I.length=8∧Qu F B E I λB=>
Zc K (.int .i64 0) B H)
theorem Zcz (C:CT) (j I E:Value) (g:G) (n:Nat) (K:Cont):Xb0 C j I E g n K=Qe Tryz.prog C Jae [j,I,E] g n K:=by kernel_rfl
def Jad (C:CT) (B:Value) (g:G) (n:Nat) (K:Cont):Prop:=
Jb .slice .eql B (.slice none 0 0) λE=>
Qa E (
Zc K (.slice none 0 0) g n) (
Qf (reps 0 [.int .u64 0,.int .u64 0,.int .u64 0,.int .u64 0,.int .u64 0,.int .u64 0,.int .u64 0,.int .u64 0]) [] λc5=>
Zl c5 .exact g n λl5 E n5=>
Zs (.slice (some ⟨l5,0,none⟩) 0 0) B 8 64 E n5 λB E F=>
Zc K B E F)
theorem JaP (C:CT) (j:Value) (g:G) (n:Nat) (K:Cont):Jad C j g n K=Qe Tryz.prog C ZE [j] g n K:=by kernel_rfl
def Zce (C:CT) (B E:Value) (g:G) (n:Nat) (K:Cont):Prop:=
Zl [.int .u64 0,.int .u64 0,.int .u64 0,.int .u64 0,.int .u64 0,.int .u64 0,.int .u64 0,.int .u64 0] .exact g n λl4 F H=>
C Jac [B,E] F H λF H I=>
Jb .int .neq F (.int .i64 0) λJ=>
Qa J (
Qf [.int .u64 0,.int .u64 0,.int .u64 0,.int .u64 0,.int .u64 0,.int .u64 0,.int .u64 0,.int .u64 0] [] λJ=>
Jj (.agg J.toArray) λJ=>
J.length=8∧Qu H l4 0 J λJ=>
Ql J l4 0 8 λr0=>
Zc K (.tuple #[.agg r0.toArray,F]) J I) (
Xf B λF=>
Xc F λF J=>
C ZD [(ptr F (J+2)),.int .i64 1] H I λF F H=>
Xf B λB=>
Xc B λB I=>
kLd F B (I+0) λB=>
Jd B E 8 λB=>
Xc B λB E=>
Ql F B E 8 λB=>
Jj (.agg B.toArray) λB=>
B.length=8∧Qu F l4 0 B λB=>
Ql B l4 0 8 λr0=>
Zc K (.tuple #[.agg r0.toArray,.int .i64 0]) B H)
theorem XcQ (C:CT) (j E:Value) (g:G) (n:Nat) (K:Cont):Zce C j E g n K=Qe Tryz.prog C QaM [j,E] g n K:=by kernel_rfl
def JH (C:CT) (B E:Value) (g:G) (n:Nat) (K:Cont):Prop:=
C Jh [B,E] g n λB E F=>
Jb .int .geq B (.int .i64 0) λB=>
Zc K B E F
theorem Xad (C:CT) (j E:Value) (g:G) (n:Nat) (K:Cont):JH C j E g n K=Qe Tryz.prog C XD [j,E] g n K:=by kernel_rfl
def Qbr (C:CT) (B:Value) (g:G) (n:Nat) (K:Cont):Prop:=
Jj B λc1=>
Zl c1 .exact g n λl1 B n1=>
kLd B l1 (0+0) λE=>
C Xbt [E] B n1 λB E n5=>
kUn .not B λB=>
Zc K B E n5
theorem Qcb (C:CT) (j:Value) (g:G) (n:Nat) (K:Cont):Qbr C j g n K=Qe Tryz.prog C Xap [j] g n K:=by kernel_rfl
def QdC (C:CT) (B:Value) (g:G) (n:Nat) (K:Cont):Prop:=
Jb .int .geq B (.int .i64 0) λE=>
Qa E (
Jb .int .leq B (.int .i64 3) λB=>
Zc K B g n) (
Zc K (.bool false) g n)
theorem JdW (C:CT) (j:Value) (g:G) (n:Nat) (K:Cont):QdC C j g n K=Qe Tryz.prog C Xbt [j] g n K:=by kernel_rfl
def Qo (C:CT) (K:Cont) (I_l1:Qk) (t:Env) (g:G) (n:Nat):Prop:=
Jb .int .add (t 6) (.int .i64 1) λB=>
I_l1 (puts t [(20,t 6),(21,B),(6,B)]) g n
def QG (C:CT) (K:Cont) (t:Env) (g:G) (n:Nat):Prop:=
Xx (t 0) (some (t 5)) none none 11 λB=>
Xaz B [.int .i64 0,.int .i64 0,.int .u64 0,.int .u64 0,.int .u64 0,.int .u64 0,.int .u64 0,.int .u64 0,.int .u64 0,.int .u64 0,.int .i64 0] g λv_ B=>
Xx (t 0) none (some (t 5)) none 11 λE=>
Zc K E B n
def XG (C:CT) (K:Cont) (I_l1:Qk) (t:Env) (g:G) (n:Nat):Prop:=
Jak (t 0) λB=>
Jb .int .lss (t 6) B λE=>
Qa E (
Jd (t 0) (t 6) 11 λF=>
Xc F λH I=>
Ql g H I 11 λH=>
Zl [.int .i64 0,.int .i64 0,.int .u64 0,.int .u64 0,.int .u64 0,.int .u64 0,.int .u64 0,.int .u64 0,.int .u64 0,.int .u64 0,.int .i64 0] .exact g n λl7 I J=>
Jj (.agg H.toArray) λM=>
M.length=11∧Qu I l7 0 M λI=>
Ql I l7 0 11 λM=>
Qbu C (t 1) [.agg M.toArray] I J λI J O=>
kUn .not I λP=>
Qa P (
Ql J l7 0 11 λQ=>
Jd (t 0) (t 5) 11 λR=>
Xc R λT U=>
Jj (.agg Q.toArray) λV=>
V.length=11∧Qu J T U V λT=>
Jb .int .add (t 5) (.int .i64 1) λU=>
Qo C K I_l1 (puts t [(16,t 6),(17,t 0),(18,B),(19,E),(22,t 0),(23,t 6),(24,F),(25,.agg H.toArray),(7,ptr l7 0),(26,t 1),(27,.agg M.toArray),(28,I),(29,P),(30,t 0),(31,t 5),(32,.agg Q.toArray),(33,R),(34,t 5),(35,U),(5,U)]) T O) (
Qo C K I_l1 (puts t [(16,t 6),(17,t 0),(18,B),(19,E),(22,t 0),(23,t 6),(24,F),(25,.agg H.toArray),(7,ptr l7 0),(26,t 1),(27,.agg M.toArray),(28,I),(29,P)]) J O)) (
QG C K (puts t [(16,t 6),(17,t 0),(18,B),(19,E)]) g n)
def ZL (C:CT) (B E:Value) (g:G) (n:Nat) (K:Cont):Prop:=
C Jh [B,E] g n λF H I=>
Jb .int .eql F (.int .i64 (-1)) λJ=>
Qa J (
Zc K B H I) (
Jb .int .add F (.int .i64 1) λM=>
lfp (XG C K) (puts (Qi [B,E]) [(4,.slice none 0 0),(8,B),(9,E),(10,F),(5,F),(11,F),(12,J),(14,F),(15,M),(6,M)]) H I)
theorem Qai (C:CT) (j E:Value) (g:G) (n:Nat) (K:Cont):ZL C j E g n K=Qe Tryz.prog C Xu [j,E] g n K:=by kernel_rfl
def X2 (C:CT) (B:Value) (g:G) (n:Nat) (K:Cont):Prop:=
Jb .slice .eql B (.slice none 0 0) λE=>
Qa E (
Zc K (.slice none 0 0) g n) (
Qf (reps 0 [.int .i64 0,.int .i64 0,.int .u64 0,.int .u64 0,.int .u64 0,.int .u64 0,.int .u64 0,.int .u64 0,.int .u64 0,.int .u64 0,.int .i64 0]) [] λc5=>
Zl c5 .exact g n λl5 E n5=>
Zs (.slice (some ⟨l5,0,none⟩) 0 0) B 11 88 E n5 λB E F=>
Zc K B E F)
theorem Jau (C:CT) (j:Value) (g:G) (n:Nat) (K:Cont):X2 C j g n K=Qe Tryz.prog C QA [j] g n K:=by kernel_rfl
def XdJ (C:CT) (B:Value) (g:G) (n:Nat) (K:Cont):Prop:=
Jj B λc1=>
Zl c1 .exact g n λl1 B n1=>
kLd B l1 (0+0) λE=>
Jb .int .eql E (.int .i64 0) λE=>
Zc K E B n1
theorem JdR (C:CT) (j:Value) (g:G) (n:Nat) (K:Cont):XdJ C j g n K=Qe Tryz.prog C XaX [j] g n K:=by kernel_rfl
def Qal (C:CT) (B:Value) (g:G) (n:Nat) (K:Cont):Prop:=
Jb .slice .eql B (.slice none 0 0) λE=>
Qa E (
Zc K (.slice none 0 0) g n) (
Qf (reps 0 [.int .i64 0,.int .i64 0,.bool false,.bool false,.int .u64 0,.int .u64 0,.int .u64 0,.int .u64 0,.int .u64 0,.int .u64 0,.int .u64 0,.int .u64 0]) [] λc5=>
Zl c5 .exact g n λl5 E n5=>
Zs (.slice (some ⟨l5,0,none⟩) 0 0) B 12 88 E n5 λB E F=>
Zc K B E F)
theorem XaT (C:CT) (j:Value) (g:G) (n:Nat) (K:Cont):Qal C j g n K=Qe Tryz.prog C QI [j] g n K:=by kernel_rfl
def JX (C:CT) (K:Cont) (t:Env) (g:G) (n:Nat):Prop:=
kUn .not (t 6) λB=>
Qa B (
C Jas [t 5] g n λB B E=>
Xf (t 5) λF=>
Xc F λF H=>
kLd B F (H+7) λF=>
Zc K F B E) (
C Jbf [t 5] g n λB B E=>
Xf (t 5) λF=>
Xc F λF H=>
kLd B F (H+7) λF=>
Zc K F B E)
def Xbr (C:CT) (B E:Value) (g:G) (n:Nat) (K:Cont):Prop:=
Jb .ptr .eql B (.pointer none) λF=>
Qa F (
Zc K (.slice none 0 0) g n) (
Jb .ptr .eql E (.pointer none) λH=>
Qa H (
Zc K (.slice none 0 0) g n) (
Xf B λI=>
Xc I λJ M=>
kLd g J (M+13) λO=>
kUn .not O λP=>
Qa P (
Zc K (.slice none 0 0) g n) (
Qf [.pointer none,.pointer none,.int .i64 0,.int .i64 0,.int .i64 0,.int .i64 0,.int .i64 0,.slice none 0 0] [(0,none,B),(1,none,E)] λQ=>
Jj (.agg Q.toArray) λR=>
Zl R .exact g n λR T U=>
Xf B λV=>
Xc V λW X=>
kLd T W (X+9) λY=>
Xf B λZ=>
Xc Z λj t=>
kLd T j (t+10) λw=>
Jak w λAA=>
Jb .int .lss Y AA λAB=>
Qa AB (
Xf B λAD=>
Xc AD λAE AF=>
kLd T AE (AF+10) λAG=>
Xf B λAH=>
Xc AH λAI AJ=>
kLd T AI (AJ+9) λAL=>
Jd AG AL 10 λAM=>
C Za4 [AM] T U λAN AO AP=>
Qc AN 0 λAQ=>
Qc AN 1 λAR=>
Jj AQ λAT=>
AT.length=5∧Qu AO R (0+2) AT λAO=>
JX C K (puts (Qi [B,E]) [(4,.slice none 0 0),(7,B),(8,F),(9,.bool false),(10,E),(11,H),(12,H),(13,.bool false),(14,B),(15,I),(16,(ptr J (M+13))),(17,O),(18,P),(19,P),(20,B),(21,E),(22,.agg Q.toArray),(23,ptr R 0),(5,ptr R 0),(24,B),(25,V),(26,(ptr W (X+9))),(27,Y),(28,B),(29,Z),(30,(ptr j (t+10))),(31,w),(32,AA),(33,AB),(6,AB),(34,AB),(36,ptr R 0),(37,B),(38,AD),(39,(ptr AE (AF+10))),(40,AG),(41,B),(42,AH),(43,(ptr AI (AJ+9))),(44,AL),(45,AM),(46,AN),(35,AN),(47,AQ),(48,AR),(49,ptr R 0),(50,(ptr R (0+2))),(6,AR)]) AO AP) (
JX C K (puts (Qi [B,E]) [(4,.slice none 0 0),(7,B),(8,F),(9,.bool false),(10,E),(11,H),(12,H),(13,.bool false),(14,B),(15,I),(16,(ptr J (M+13))),(17,O),(18,P),(19,P),(20,B),(21,E),(22,.agg Q.toArray),(23,ptr R 0),(5,ptr R 0),(24,B),(25,V),(26,(ptr W (X+9))),(27,Y),(28,B),(29,Z),(30,(ptr j (t+10))),(31,w),(32,AA),(33,AB),(6,AB),(34,AB)]) T U))))
theorem XbB (C:CT) (j E:Value) (g:G) (n:Nat) (K:Cont):Xbr C j E g n K=Qe Tryz.prog C QX [j,E] g n K:=by kernel_rfl
def Jam (C:CT) (K:Cont) (t:Env) (g:G) (n:Nat):Prop:=
Xf (t 7) λB=>
Xc B λB E=>
kLd g B (E+7) λB=>
Zc K B g n
def Qm (C:CT) (K:Cont) (t:Env) (g:G) (n:Nat):Prop:=
Qa (t 8) (
Xf (t 0) λB=>
Xc B λE F=>
kLd g E (F+11) λH=>
C QaK [H] g n λI J M=>
Jam C K (puts t [(89,t 8),(90,t 0),(91,B),(92,(ptr E (F+11))),(93,H),(94,I)]) J M) (
Jam C K (puts t [(89,t 8)]) g n)
def Zbf (C:CT) (B E:Value) (g:G) (n:Nat) (K:Cont):Prop:=
Jb .ptr .eql B (.pointer none) λF=>
Qa F (
Zc K (.slice none 0 0) g n) (
Jb .ptr .eql E (.pointer none) λH=>
Qa H (
Zc K (.slice none 0 0) g n) (
Xf B λI=>
Xc I λJ M=>
kLd g J (M+11) λO=>
C ZI [O] g n λP Q R=>
Qc P 0 λT=>
Qc P 1 λU=>
Zl [.int .i64 0,.int .i64 0,.int .i64 0,.int .u64 0,.bool false] .exact Q R λl5 Q n5=>
Jj T λR=>
R.length=5∧Qu Q l5 0 R λQ=>
kUn .not U λR=>
Qa R (
Zc K (.slice none 0 0) Q n5) (
Qf [.pointer none,.pointer none,.int .i64 0,.int .i64 0,.int .i64 0,.int .i64 0,.int .i64 0,.slice none 0 0] [(0,none,B),(1,none,E)] λV=>
Jj (.agg V.toArray) λW=>
Zl W .exact Q n5 λQ W X=>
kLd W l5 (0+0) λY=>
Jb .int .eql Y (.int .i64 9) λZ=>
Qa Z (
Xf B λj=>
Xc j λt w=>
kLd W t (w+0) λAA=>
kLd W l5 (0+1) λAB=>
kLd W l5 (0+2) λAD=>
kLd W l5 (0+3) λAE=>
C Z9 [E,AA,AB,AD,AE] W X λAF AG AH=>
Qa AF (
kLd AG l5 (0+1) λAI=>
kLd AG l5 (0+2) λAJ=>
kLd AG l5 (0+3) λAL=>
C Zm [ptr Q 0,.int .i64 3,AI,AJ,AL] AG AH λAM AN AO=>
Qm C K (puts (Qi [B,E]) [(4,.slice none 0 0),(9,B),(10,F),(11,.bool false),(12,E),(13,H),(14,H),(16,B),(17,I),(18,(ptr J (M+11))),(19,O),(20,P),(15,P),(21,T),(22,U),(5,ptr l5 0),(6,U),(23,U),(24,R),(25,B),(26,E),(27,.agg V.toArray),(28,ptr Q 0),(7,ptr Q 0),(8,.bool false),(29,(ptr l5 (0+0))),(30,Y),(55,Z),(54,Z),(56,E),(57,B),(58,j),(59,(ptr t (w+0))),(60,AA),(61,(ptr l5 (0+1))),(62,AB),(63,(ptr l5 (0+2))),(64,AD),(65,(ptr l5 (0+3))),(66,AE),(67,AF),(8,AF),(68,AF),(69,ptr Q 0),(70,(ptr l5 (0+1))),(71,AI),(72,(ptr l5 (0+2))),(73,AJ),(74,(ptr l5 (0+3))),(75,AL),(76,AM)]) AN AO) (
Qm C K (puts (Qi [B,E]) [(4,.slice none 0 0),(9,B),(10,F),(11,.bool false),(12,E),(13,H),(14,H),(16,B),(17,I),(18,(ptr J (M+11))),(19,O),(20,P),(15,P),(21,T),(22,U),(5,ptr l5 0),(6,U),(23,U),(24,R),(25,B),(26,E),(27,.agg V.toArray),(28,ptr Q 0),(7,ptr Q 0),(8,.bool false),(29,(ptr l5 (0+0))),(30,Y),(55,Z),(54,Z),(56,E),(57,B),(58,j),(59,(ptr t (w+0))),(60,AA),(61,(ptr l5 (0+1))),(62,AB),(63,(ptr l5 (0+2))),(64,AD),(65,(ptr l5 (0+3))),(66,AE),(67,AF),(8,AF),(68,AF)]) AG AH)) (
Jb .int .eql Y (.int .i64 12) λj=>
Qa j (
kLd W l5 (0+1) λt=>
C JM [ptr Q 0,t,.int .i64 4] W X λw AA AB=>
Qm C K (puts (Qi [B,E]) [(4,.slice none 0 0),(9,B),(10,F),(11,.bool false),(12,E),(13,H),(14,H),(16,B),(17,I),(18,(ptr J (M+11))),(19,O),(20,P),(15,P),(21,T),(22,U),(5,ptr l5 0),(6,U),(23,U),(24,R),(25,B),(26,E),(27,.agg V.toArray),(28,ptr Q 0),(7,ptr Q 0),(8,.bool false),(29,(ptr l5 (0+0))),(30,Y),(55,Z),(54,Z),(78,j),(77,j),(79,ptr Q 0),(80,(ptr l5 (0+1))),(81,t),(82,w),(8,w)]) AA AB) (
Jb .int .eql Y (.int .i64 13) λt=>
Qa t (
kLd W l5 (0+1) λw=>
C JM [ptr Q 0,w,.int .i64 5] W X λAA AB AD=>
Qm C K (puts (Qi [B,E]) [(4,.slice none 0 0),(9,B),(10,F),(11,.bool false),(12,E),(13,H),(14,H),(16,B),(17,I),(18,(ptr J (M+11))),(19,O),(20,P),(15,P),(21,T),(22,U),(5,ptr l5 0),(6,U),(23,U),(24,R),(25,B),(26,E),(27,.agg V.toArray),(28,ptr Q 0),(7,ptr Q 0),(8,.bool false),(29,(ptr l5 (0+0))),(30,Y),(55,Z),(54,Z),(78,j),(77,j),(84,t),(83,t),(85,ptr Q 0),(86,(ptr l5 (0+1))),(87,w),(88,AA),(8,AA)]) AB AD) (
kLd W l5 (0+4) λw=>
Qa w (
Xf B λAA=>
Xc AA λAB AD=>
kLd W AB (AD+12) λAE=>
Jb .int .eql AE (.int .i64 0) λAF=>
kLd W l5 (0+4) λAG=>
kUn .not AG λAH=>
Qa AH (
kLd W l5 (0+1) λAI=>
C JM [ptr Q 0,AI,.int .i64 5] W X λAJ AL AM=>
Qa AJ (
Xf B λAN=>
Xc AN λAO AP=>
kLd AL AO (AP+11) λAQ=>
C Qae [AQ] AL AM λAR AT AU=>
Qm C K (puts (Qi [B,E]) [(4,.slice none 0 0),(9,B),(10,F),(11,.bool false),(12,E),(13,H),(14,H),(16,B),(17,I),(18,(ptr J (M+11))),(19,O),(20,P),(15,P),(21,T),(22,U),(5,ptr l5 0),(6,U),(23,U),(24,R),(25,B),(26,E),(27,.agg V.toArray),(28,ptr Q 0),(7,ptr Q 0),(8,.bool false),(29,(ptr l5 (0+0))),(30,Y),(55,Z),(54,Z),(78,j),(77,j),(84,t),(83,t),(31,(ptr l5 (0+4))),(32,w),(33,.bool true),(34,B),(35,AA),(36,(ptr AB (AD+12))),(37,AE),(38,AF),(39,AF),(8,AF),(40,(ptr l5 (0+4))),(41,AG),(42,AH),(43,.bool true),(44,ptr Q 0),(45,(ptr l5 (0+1))),(46,AI),(47,AJ),(48,AJ),(49,B),(50,AN),(51,(ptr AO (AP+11))),(52,AQ),(53,AR)]) AT AU) (
Qm C K (puts (Qi [B,E]) [(4,.slice none 0 0),(9,B),(10,F),(11,.bool false),(12,E),(13,H),(14,H),(16,B),(17,I),(18,(ptr J (M+11))),(19,O),(20,P),(15,P),(21,T),(22,U),(5,ptr l5 0),(6,U),(23,U),(24,R),(25,B),(26,E),(27,.agg V.toArray),(28,ptr Q 0),(7,ptr Q 0),(8,.bool false),(29,(ptr l5 (0+0))),(30,Y),(55,Z),(54,Z),(78,j),(77,j),(84,t),(83,t),(31,(ptr l5 (0+4))),(32,w),(33,.bool true),(34,B),(35,AA),(36,(ptr AB (AD+12))),(37,AE),(38,AF),(39,AF),(8,AF),(40,(ptr l5 (0+4))),(41,AG),(42,AH),(43,.bool true),(44,ptr Q 0),(45,(ptr l5 (0+1))),(46,AI),(47,AJ),(48,AJ)]) AL AM)) (
Qm C K (puts (Qi [B,E]) [(4,.slice none 0 0),(9,B),(10,F),(11,.bool false),(12,E),(13,H),(14,H),(16,B),(17,I),(18,(ptr J (M+11))),(19,O),(20,P),(15,P),(21,T),(22,U),(5,ptr l5 0),(6,U),(23,U),(24,R),(25,B),(26,E),(27,.agg V.toArray),(28,ptr Q 0),(7,ptr Q 0),(8,.bool false),(29,(ptr l5 (0+0))),(30,Y),(55,Z),(54,Z),(78,j),(77,j),(84,t),(83,t),(31,(ptr l5 (0+4))),(32,w),(33,.bool true),(34,B),(35,AA),(36,(ptr AB (AD+12))),(37,AE),(38,AF),(39,AF),(8,AF),(40,(ptr l5 (0+4))),(41,AG),(42,AH),(43,.bool false),(44,undef),(45,undef),(46,undef),(47,undef),(48,.bool false)]) W X)) (
kLd W l5 (0+4) λAG=>
kUn .not AG λAH=>
Qa AH (
kLd W l5 (0+1) λAI=>
C JM [ptr Q 0,AI,.int .i64 5] W X λAJ AA AM=>
Qa AJ (
Xf B λAN=>
Xc AN λAO AP=>
kLd AA AO (AP+11) λAQ=>
C Qae [AQ] AA AM λAR AB AU=>
Qm C K (puts (Qi [B,E]) [(4,.slice none 0 0),(9,B),(10,F),(11,.bool false),(12,E),(13,H),(14,H),(16,B),(17,I),(18,(ptr J (M+11))),(19,O),(20,P),(15,P),(21,T),(22,U),(5,ptr l5 0),(6,U),(23,U),(24,R),(25,B),(26,E),(27,.agg V.toArray),(28,ptr Q 0),(7,ptr Q 0),(8,.bool false),(29,(ptr l5 (0+0))),(30,Y),(55,Z),(54,Z),(78,j),(77,j),(84,t),(83,t),(31,(ptr l5 (0+4))),(32,w),(33,.bool false),(34,undef),(35,undef),(36,undef),(37,undef),(38,undef),(39,.bool false),(8,.bool false),(40,(ptr l5 (0+4))),(41,AG),(42,AH),(43,.bool true),(44,ptr Q 0),(45,(ptr l5 (0+1))),(46,AI),(47,AJ),(48,AJ),(49,B),(50,AN),(51,(ptr AO (AP+11))),(52,AQ),(53,AR)]) AB AU) (
Qm C K (puts (Qi [B,E]) [(4,.slice none 0 0),(9,B),(10,F),(11,.bool false),(12,E),(13,H),(14,H),(16,B),(17,I),(18,(ptr J (M+11))),(19,O),(20,P),(15,P),(21,T),(22,U),(5,ptr l5 0),(6,U),(23,U),(24,R),(25,B),(26,E),(27,.agg V.toArray),(28,ptr Q 0),(7,ptr Q 0),(8,.bool false),(29,(ptr l5 (0+0))),(30,Y),(55,Z),(54,Z),(78,j),(77,j),(84,t),(83,t),(31,(ptr l5 (0+4))),(32,w),(33,.bool false),(34,undef),(35,undef),(36,undef),(37,undef),(38,undef),(39,.bool false),(8,.bool false),(40,(ptr l5 (0+4))),(41,AG),(42,AH),(43,.bool true),(44,ptr Q 0),(45,(ptr l5 (0+1))),(46,AI),(47,AJ),(48,AJ)]) AA AM)) (
Qm C K (puts (Qi [B,E]) [(4,.slice none 0 0),(9,B),(10,F),(11,.bool false),(12,E),(13,H),(14,H),(16,B),(17,I),(18,(ptr J (M+11))),(19,O),(20,P),(15,P),(21,T),(22,U),(5,ptr l5 0),(6,U),(23,U),(24,R),(25,B),(26,E),(27,.agg V.toArray),(28,ptr Q 0),(7,ptr Q 0),(8,.bool false),(29,(ptr l5 (0+0))),(30,Y),(55,Z),(54,Z),(78,j),(77,j),(84,t),(83,t),(31,(ptr l5 (0+4))),(32,w),(33,.bool false),(34,undef),(35,undef),(36,undef),(37,undef),(38,undef),(39,.bool false),(8,.bool false),(40,(ptr l5 (0+4))),(41,AG),(42,AH),(43,.bool false),(44,undef),(45,undef),(46,undef),(47,undef),(48,.bool false)]) W X))))))))
theorem Qbo (C:CT) (j E:Value) (g:G) (n:Nat) (K:Cont):Zbf C j E g n K=Qe Tryz.prog C JO [j,E] g n K:=by kernel_rfl
def Zbu (C:CT) (B E:Value) (g:G) (n:Nat) (K:Cont):Prop:=
Jj E λc3=>
Zl c3 .exact g n λl3 E n3=>
Jb .ptr .eql B (.pointer none) λF=>
Qa F (
Zc K (.slice none 0 0) E n3) (
kLd E l3 (0+0) λF=>
Jb .int .neq F (.int .i64 14) λF=>
Qa F (
Zc K (.slice none 0 0) E n3) (
Xf B λF=>
Xc F λF H=>
kLd E F (H+12) λF=>
Jb .int .eql F (.int .i64 0) λF=>
Qa F (
Zc K (.slice none 0 0) E n3) (
Xf B λF=>
Xc F λF H=>
kLd E F (H+12) λF=>
Jb .int .sub F (.int .i64 1) λF=>
Xf B λH=>
Xc H λH I=>
kSt E H (I+12) F λE=>
Xf B λB=>
Xc B λB F=>
kLd E B (F+0) λB=>
kLd E l3 (0+1) λF=>
Qf [.int .i64 0,.int .i64 0,.int .i64 0,.int .i64 0,.int .u64 0] [(0,none,.int .i64 6),(1,none,B),(2,none,F)] λB=>
Qf (reps 1 [.int .i64 0,.int .i64 0,.int .i64 0,.int .i64 0,.int .u64 0]) [(0,some 5,.agg B.toArray)] λB=>
Zl B .exact E n3 λB E F=>
Zc K (.slice (some ⟨B,0,none⟩) 1 1) E F)))
theorem XbI (C:CT) (j E:Value) (g:G) (n:Nat) (K:Cont):Zbu C j E g n K=Qe Tryz.prog C Zz [j,E] g n K:=by kernel_rfl
def Zcw (C:CT) (B:Value) (g:G) (n:Nat) (K:Cont):Prop:=
Qf [.int .i64 0,.int .i64 0,.int .i64 0,.int .i64 0,.int .u64 0] [(0,none,.int .i64 5),(2,none,B)] λc4=>
Qf (reps 1 [.int .i64 0,.int .i64 0,.int .i64 0,.int .i64 0,.int .u64 0]) [(0,some 5,.agg c4.toArray)] λc5=>
Zl c5 .exact g n λl5 B n5=>
Zc K (.slice (some ⟨l5,0,none⟩) 1 1) B n5
theorem Xc7 (C:CT) (j:Value) (g:G) (n:Nat) (K:Cont):Zcw C j g n K=Qe Tryz.prog C Qat [j] g n K:=by kernel_rfl
def Xcv (C:CT) (B:Value) (g:G) (n:Nat) (K:Cont):Prop:=
Jb .ptr .neq B (.pointer none) λE=>
Qa E (
Xf B λB=>
Xc B λl6 B=>
kSt g l6 (B+13) (.bool false) λB=>
Zc K (.tuple #[]) B n) (
Zc K (.tuple #[]) g n)
theorem Xc9 (C:CT) (j:Value) (g:G) (n:Nat) (K:Cont):Xcv C j g n K=Qe Tryz.prog C XaU [j] g n K:=by kernel_rfl
def Zcc (C:CT) (B:Value) (g:G) (n:Nat) (K:Cont):Prop:=
Jb .ptr .eql B (.pointer none) λE=>
Qa E (
Zc K (.int .i64 0) g n) (
Xf B λB=>
Xc B λl7 B=>
kLd g l7 (B+82) λB=>
Zc K B g n)
theorem XcS (C:CT) (j:Value) (g:G) (n:Nat) (K:Cont):Zcc C j g n K=Qe Tryz.prog C JD [j] g n K:=by kernel_rfl
def Jct (C:CT) (B E:Value) (g:G) (n:Nat) (K:Cont):Prop:=
Xf B λB=>
Xc B λl7 B=>
kLd g l7 (B+81) λB=>
Jb .int .add B E λB=>
Jb .int .rem B (.int .i64 16) λB=>
Zc K B g n
theorem Qc6 (C:CT) (j E:Value) (g:G) (n:Nat) (K:Cont):Jct C j E g n K=Qe Tryz.prog C QD [j,E] g n K:=by kernel_rfl
def Xb1 (C:CT) (B:Value) (g:G) (n:Nat) (K:Cont):Prop:=
Jb .int .geq B (.int .i64 0) λE=>
Qa E (
Jb .int .leq B (.int .i64 7) λB=>
Zc K B g n) (
Zc K (.bool false) g n)
theorem JcF (C:CT) (j:Value) (g:G) (n:Nat) (K:Cont):Xb1 C j g n K=Qe Tryz.prog C XY [j] g n K:=by kernel_rfl
def XH (C:CT) (K:Cont) (I_l1:Qk) (t:Env) (g:G) (n:Nat):Prop:=
Jb .int .lss (t 8) (t 7) λB=>
Qa B (
Jd (t 0) (t 8) 11 λE=>
Xc E λF H=>
Ql g F H 11 λF=>
Qbu C (t 1) [.agg F.toArray] g n λH I J=>
Qa H (
Zc K (t 8) I J) (
Jb .int .add (t 8) (.int .i64 1) λM=>
I_l1 (puts t [(9,B),(10,t 8),(5,t 8),(11,t 1),(12,t 0),(13,t 8),(14,E),(15,.agg F.toArray),(16,H),(18,M),(8,M)]) I J)) (
Zc K (.int .i64 (-1)) g n)
def ZO (C:CT) (B E:Value) (g:G) (n:Nat) (K:Cont):Prop:=
Jak B λF=>
lfp (XH C K) (puts (Qi [B,E]) [(4,.int .i64 0),(6,B),(7,F),(8,.int .i64 0)]) g n
theorem Zak (C:CT) (j E:Value) (g:G) (n:Nat) (K:Cont):ZO C j E g n K=Qe Tryz.prog C Jh [j,E] g n K:=by kernel_rfl
def QcK (C:CT) (B E F:Value) (g:G) (n:Nat) (K:Cont):Prop:=
Jj F λc5=>
Zl c5 .exact g n λl5 F n5=>
Xf B λH=>
Xc H λH I=>
kLd F H (I+0+10) λH=>
Jb .int .geq H (.int .i64 0) λI=>
Qa I (
Jb .int .neq H E λI=>
Qa I (
C Jv [H] F n5 λH I J=>
C J3 [B,.int .i64 1,E,H,.int .i64 13] I J λH H I=>
Zc K (.tuple #[]) H I) (
Xf B λH=>
Xc H λI J=>
kLd F I (J+0+11) λM=>
Jb .int .eql M (.int .u8 0) λO=>
Qa O (
C Qad [B,E,.int .i64 9] F n5 λP Q R=>
Zc K (.tuple #[]) Q R) (
C Zaj [B,E] F n5 λQ T U=>
Zc K (.tuple #[]) T U))) (
Xf B λH=>
Xc H λI J=>
kLd F I (J+0+11) λM=>
Jb .int .eql M (.int .u8 0) λO=>
Qa O (
C Qad [B,E,.int .i64 9] F n5 λP H R=>
Zc K (.tuple #[]) H R) (
C Zaj [B,E] F n5 λQ B U=>
Zc K (.tuple #[]) B U))
theorem Xdi (C:CT) (j I E:Value) (g:G) (n:Nat) (K:Cont):QcK C j I E g n K=Qe Tryz.prog C JaB [j,I,E] g n K:=by kernel_rfl
def XcU (C:CT) (B E F:Value) (g:G) (n:Nat) (K:Cont):Prop:=
Jj F λc5=>
Zl c5 .exact g n λl5 F n5=>
C Jah [B] F n5 λF H I=>
C Jv [E] H I λH I J=>
Jb .int .andNot F H λF=>
Jb .int .eql F (.int .u8 0) λH=>
Qa H (
C Qad [B,E,.int .i64 10] I J λH H M=>
Zc K (.tuple #[]) H M) (
C J3 [B,.int .i64 2,E,F,.int .i64 12] I J λB B E=>
Zc K (.tuple #[]) B E)
theorem Qdi (C:CT) (j I E:Value) (g:G) (n:Nat) (K:Cont):XcU C j I E g n K=Qe Tryz.prog C ZaD [j,I,E] g n K:=by kernel_rfl
def XaL (C:CT) (K:Cont) (t:Env) (g:G) (n:Nat):Prop:=
C ZQ [t 0,t 1,.int .i64 11] g n λB B E=>
Zc K (.tuple #[]) B E
def Jdc (C:CT) (B E F:Value) (g:G) (n:Nat) (K:Cont):Prop:=
Jj F λc5=>
Zl c5 .exact g n λl5 H n5=>
Xf B λI=>
Xc I λJ M=>
kLd H J (M+0+10) λO=>
Jb .int .eql O E λP=>
Qa P (
Xf B λQ=>
Xc Q λR T=>
kSt H R (T+0+10) (.int .i64 (-1)) λU=>
Ql U l5 0 12 λV=>
C ZaC [B,.agg V.toArray] U n5 λU W X=>
XaL C K (puts (Qi [B,E,F]) [(5,ptr l5 0),(6,B),(7,I),(8,(ptr J (M+0))),(9,(ptr J (M+0+10))),(10,O),(11,E),(12,P),(13,B),(14,Q),(15,(ptr R (T+0))),(16,(ptr R (T+0+10))),(17,B),(18,.agg V.toArray),(19,U)]) W X) (
Xf B λQ=>
Xc Q λR T=>
kLd H R (T+0+11) λU=>
C Jv [E] H n5 λV W X=>
(Xc (ptr R (T+0+11)) λl _=>W l=H l)∧Jb .int .andNot U V λH=>
Xf B λY=>
Xc Y λZ j=>
kSt W Z (j+0+11) H λW=>
XaL C K (puts (Qi [B,E,F]) [(5,ptr l5 0),(6,B),(7,I),(8,(ptr J (M+0))),(9,(ptr J (M+0+10))),(10,O),(11,E),(12,P),(20,B),(21,Q),(22,(ptr R (T+0))),(23,(ptr R (T+0+11))),(24,U),(25,E),(26,V),(27,H),(28,Y),(29,(ptr Z (j+0))),(30,(ptr Z (j+0+11)))]) W X)
theorem XdG (C:CT) (j I E:Value) (g:G) (n:Nat) (K:Cont):Jdc C j I E g n K=Qe Tryz.prog C QaO [j,I,E] g n K:=by kernel_rfl
def Xcw (C:CT) (B E F:Value) (g:G) (n:Nat) (K:Cont):Prop:=
Jj F λc5=>
Zl c5 .exact g n λl5 F n5=>
Xf B λH=>
Xc H λH I=>
kLd F H (I+0+10) λH=>
C Jv [H] F n5 λF H I=>
C J3 [B,.int .i64 4,E,F,.int .i64 13] H I λB B E=>
Zc K (.tuple #[]) B E
theorem Jda (C:CT) (j I E:Value) (g:G) (n:Nat) (K:Cont):Xcw C j I E g n K=Qe Tryz.prog C Jat [j,I,E] g n K:=by kernel_rfl
def ZcU (C:CT) (B E F:Value) (g:G) (n:Nat) (K:Cont):Prop:=
Jj F λc5=>
Zl c5 .exact g n λl5 F n5=>
C Jah [B] F n5 λF H I=>
C J3 [B,.int .i64 5,E,F,.int .i64 12] H I λB B E=>
Zc K (.tuple #[]) B E
theorem Xdh (C:CT) (j I E:Value) (g:G) (n:Nat) (K:Cont):ZcU C j I E g n K=Qe Tryz.prog C QaC [j,I,E] g n K:=by kernel_rfl
def XbX (C:CT) (B E:Value) (g:G) (n:Nat) (K:Cont):Prop:=
Jj B λc2=>
Zl c2 .exact g n λl2 B n2=>
kLd B l2 (0+0) λF=>
Jb .int .neq F (.int .i64 0) λF=>
Qa F (
kLd B l2 (0+1) λF=>
Xc E λE H=>
kLd B E H λE=>
Jb .int .eql F E λE=>
Zc K E B n2) (
Zc K (.bool false) B n2)
theorem QcG (C:CT) (j E:Value) (g:G) (n:Nat) (K:Cont):XbX C j E g n K=Qe Tryz.prog C XaG [j,E] g n K:=by kernel_rfl
def XaS (C:CT) (K:Cont) (t:Env) (g:G) (n:Nat):Prop:=
Qa (t 8) (
Jb .int .rem (t 1) (t 0) λB=>
Zc K B g n) (
Zc K (.int .i64 0) g n)
def Jfx (C:CT) (B E:Value) (g:G) (n:Nat) (K:Cont):Prop:=
Jb .int .lss E (.int .i64 0) λF=>
Qa F (
Zc K (.int .i64 0) g n) (
Jb .int .eql B (.int .i64 1) λH=>
Qa H (
XaS C K (puts (Qi [B,E]) [(4,.int .i64 0),(5,E),(6,F),(7,B),(9,H),(8,H)]) g n) (
Jb .int .eql B (.int .i64 2) λI=>
Qa I (
XaS C K (puts (Qi [B,E]) [(4,.int .i64 0),(5,E),(6,F),(7,B),(9,H),(8,H),(10,I),(8,I)]) g n) (
Jb .int .eql B (.int .i64 4) λJ=>
Qa J (
XaS C K (puts (Qi [B,E]) [(4,.int .i64 0),(5,E),(6,F),(7,B),(9,H),(8,H),(10,I),(8,I),(11,J),(8,J)]) g n) (
Jb .int .eql B (.int .i64 8) λM=>
XaS C K (puts (Qi [B,E]) [(4,.int .i64 0),(5,E),(6,F),(7,B),(9,H),(8,H),(10,I),(8,I),(11,J),(8,J),(12,M),(8,M)]) g n))))
theorem QeY (C:CT) (j E:Value) (g:G) (n:Nat) (K:Cont):Jfx C j E g n K=Qe Tryz.prog C ZcC [j,E] g n K:=by kernel_rfl
def Zcu (C:CT) (B E:Value) (g:G) (n:Nat) (K:Cont):Prop:=
Jb .ptr .eql B (.pointer none) λF=>
Qa F (
Zc K (.int .i64 1) g n) (
Jb .int .lss E (.int .i64 0) λF=>
Qa F (
Zc K (.int .i64 12) g n) (
Xf B λB=>
Xc B λB F=>
kLd g B (F+0) λB=>
Jak B λB=>
Jb .int .geq E B λB=>
Qa B (
Zc K (.int .i64 12) g n) (
Zc K (.int .i64 0) g n)))
theorem Xc1 (C:CT) (j E:Value) (g:G) (n:Nat) (K:Cont):Zcu C j E g n K=Qe Tryz.prog C Jac [j,E] g n K:=by kernel_rfl
def ZcV (C:CT) (B:Value) (g:G) (n:Nat) (K:Cont):Prop:=
isCell B=true∧Zl [B] .exact g n λl1 B n1=>
Zl [.int .i64 0,.int .i64 0,.int .i64 0,.int .i64 0,.int .i64 0] .exact B n1 λl2 B n2=>
kLd B l1 0 λE=>
Xf E λE=>
Xc E λl6 E=>
C Xbj [(ptr l6 (E+0)),(.func (.func JaL) #[] #[ptr l1 0])] B n2 λB B E=>
kLd B l1 0 λF=>
Xf F λF=>
Xc F λF H=>
Ql B F (H+4) 5 λF=>
kLd B l1 0 λH=>
Xf H λH=>
Xc H λH I=>
kLd B H (I+9) λJ=>
Jj (.agg F.toArray) λF=>
F.length=5∧Qu B l2 0 F λF=>
(Xc (ptr l1 0) λl _=>F l=B l)∧(Xc (ptr H (I+9)) λl _=>F l=B l)∧Ql F l2 0 5 λr0=>
Zc K (.tuple #[.agg r0.toArray,J]) F E
theorem Zdk (C:CT) (j:Value) (g:G) (n:Nat) (K:Cont):ZcV C j g n K=Qe Tryz.prog C Za4 [j] g n K:=by kernel_rfl
def Jcv (C:CT) (B:Value) (g:G) (n:Nat) (K:Cont):Prop:=
C Zm [B,.int .i64 10,.int .i64 0,.int .i64 0,.int .u64 0] g n λE E n3=>
Xf B λB=>
Xc B λl6 B=>
kLd E l6 (B+0) λB=>
Xf B λB=>
Xc B λB F=>
kSt E B (F+13) (.bool false) λB=>
Zc K (.tuple #[]) B n3
theorem Xda (C:CT) (j:Value) (g:G) (n:Nat) (K:Cont):Jcv C j g n K=Qe Tryz.prog C Jas [j] g n K:=by kernel_rfl
def ZaK (C:CT) (K:Cont) (t:Env) (g:G) (n:Nat):Prop:=
Qa (t 50) (
C Xr [t 0] g n λB B E=>
Zc K (.tuple #[]) B E) (
Jb .int .eql (t 15) (.int .i64 21) λB=>
Qa B (
Xc (t 3) λB E=>
kLd g B (E+1) λB=>
Xf (t 2) λE=>
Ji E B 8 1 λB=>
Xc B λB E=>
kLd g B E λB=>
C Zm [t 0,.int .i64 8,.int .i64 0,.int .i64 0,B] g n λB B E=>
C Xs [t 0] B E λB B E=>
Zc K (.tuple #[]) B E) (
Jb .int .eql (t 15) (.int .i64 22) λB=>
Qa B (
C Zm [t 0,.int .i64 9,.int .i64 0,.int .i64 0,.int .u64 0] g n λB B E=>
Xf (t 0) λF=>
Xc F λF H=>
kLd B F (H+0) λF=>
Xf F λF=>
Xc F λF H=>
kSt B F (H+13) (.bool false) λB=>
Zc K (.tuple #[]) B E) (
C QaD [t 0] g n λB B E=>
Zc K (.tuple #[]) B E)))
def JaJ (C:CT) (K:Cont) (t:Env) (g:G) (n:Nat):Prop:=
Qa (t 45) (
C XaM [t 0] g n λB B E=>
Zc K (.tuple #[]) B E) (
Jb .int .eql (t 15) (.int .i64 10) λB=>
Qa B (
ZaK C K (puts t [(51,B),(50,B)]) g n) (
Jb .int .eql (t 15) (.int .i64 11) λE=>
ZaK C K (puts t [(51,B),(50,B),(52,E),(50,E)]) g n))
def Zab (C:CT) (K:Cont) (t:Env) (g:G) (n:Nat):Prop:=
Qa (t 38) (
C Xy [t 0] g n λB B E=>
Zc K (.tuple #[]) B E) (
Jb .int .eql (t 15) (.int .i64 15) λB=>
Qa B (
JaJ C K (puts t [(46,B),(45,B)]) g n) (
Jb .int .eql (t 15) (.int .i64 16) λE=>
JaJ C K (puts t [(46,B),(45,B),(47,E),(45,E)]) g n))
def Xdg (C:CT) (B:Value) (g:G) (n:Nat) (K:Cont):Prop:=
Xf B λE=>
Xc E λl6 F=>
kLd g l6 (F+0) λH=>
Xf H λI=>
Xc I λJ M=>
Xf B λO=>
Xc O λP Q=>
Ql g P (Q+2) 5 λR=>
Zl [.int .i64 0,.int .i64 0,.int .i64 0,.int .i64 0,.int .i64 0] .exact g n λl3 T n3=>
Jj (.agg R.toArray) λU=>
U.length=5∧Qu T l3 0 U λT=>
kLd T l3 (0+0) λU=>
Jb .int .eql U (.int .i64 0) λV=>
Qa V (
C Xs [B] T n3 λW W X=>
Zc K (.tuple #[]) W X) (
Jb .int .eql U (.int .i64 1) λW=>
Qa W (
kLd T l3 (0+1) λX=>
kLd T l3 (0+4) λY=>
XaQ .u64 Y λY=>
Ji (ptr J (M+1)) X 8 1 λX=>
Xc X λX Z=>
kSt T X Z Y λX=>
C Xs [B] X n3 λX X Y=>
Zc K (.tuple #[]) X Y) (
Jb .int .eql U (.int .i64 8) λX=>
Qa X (
C JaT [B] T n3 λY Y Z=>
Zc K (.tuple #[]) Y Z) (
Jb .int .eql U (.int .i64 9) λY=>
Qa Y (
Zab C K (puts (Qi [B]) [(4,B),(5,E),(6,(ptr l6 (F+0))),(7,H),(8,I),(9,(ptr J (M+1))),(2,(ptr J (M+1))),(10,B),(11,O),(12,(ptr P (Q+2))),(13,.agg R.toArray),(3,ptr l3 0),(14,(ptr l3 (0+0))),(15,U),(19,V),(18,V),(23,W),(22,W),(35,X),(34,X),(39,Y),(38,Y)]) T n3) (
Jb .int .eql U (.int .i64 12) λZ=>
Qa Z (
Zab C K (puts (Qi [B]) [(4,B),(5,E),(6,(ptr l6 (F+0))),(7,H),(8,I),(9,(ptr J (M+1))),(2,(ptr J (M+1))),(10,B),(11,O),(12,(ptr P (Q+2))),(13,.agg R.toArray),(3,ptr l3 0),(14,(ptr l3 (0+0))),(15,U),(19,V),(18,V),(23,W),(22,W),(35,X),(34,X),(39,Y),(38,Y),(40,Z),(38,Z)]) T n3) (
Jb .int .eql U (.int .i64 13) λj=>
Qa j (
Zab C K (puts (Qi [B]) [(4,B),(5,E),(6,(ptr l6 (F+0))),(7,H),(8,I),(9,(ptr J (M+1))),(2,(ptr J (M+1))),(10,B),(11,O),(12,(ptr P (Q+2))),(13,.agg R.toArray),(3,ptr l3 0),(14,(ptr l3 (0+0))),(15,U),(19,V),(18,V),(23,W),(22,W),(35,X),(34,X),(39,Y),(38,Y),(40,Z),(38,Z),(41,j),(38,j)]) T n3) (
Jb .int .eql U (.int .i64 14) λt=>
Zab C K (puts (Qi [B]) [(4,B),(5,E),(6,(ptr l6 (F+0))),(7,H),(8,I),(9,(ptr J (M+1))),(2,(ptr J (M+1))),(10,B),(11,O),(12,(ptr P (Q+2))),(13,.agg R.toArray),(3,ptr l3 0),(14,(ptr l3 (0+0))),(15,U),(19,V),(18,V),(23,W),(22,W),(35,X),(34,X),(39,Y),(38,Y),(40,Z),(38,Z),(41,j),(38,j),(42,t),(38,t)]) T n3))))))
theorem Jds (C:CT) (j:Value) (g:G) (n:Nat) (K:Cont):Xdg C j g n K=Qe Tryz.prog C Jbf [j] g n K:=by kernel_rfl
def XbV (C:CT) (B:Value) (g:G) (n:Nat) (K:Cont):Prop:=
Zl [.int .i64 0,.int .i64 0,.int .i64 0,.int .u64 0,.bool false] .exact g n λl2 E n2=>
C JD [B] E n2 λE F n5=>
Jb .int .eql E (.int .i64 0) λE=>
Qa E (
Qf [.int .i64 0,.int .i64 0,.int .i64 0,.int .u64 0,.bool false] [] λc7=>
Jj (.agg c7.toArray) λE=>
E.length=5∧Qu F l2 0 E λE=>
Ql E l2 0 5 λr0=>
Zc K (.tuple #[.agg r0.toArray,.bool false]) E n5) (
Xf B λE=>
Xc E λE H=>
kLd F E (H+81) λE=>
Xf B λB=>
Xc B λB H=>
Ji (ptr B (H+0)) E 16 5 λB=>
Xc B λB E=>
Ql F B E 5 λB=>
Jj (.agg B.toArray) λB=>
B.length=5∧Qu F l2 0 B λB=>
Ql B l2 0 5 λr0=>
Zc K (.tuple #[.agg r0.toArray,.bool true]) B n5)
theorem JcA (C:CT) (j:Value) (g:G) (n:Nat) (K:Cont):XbV C j g n K=Qe Tryz.prog C ZI [j] g n K:=by kernel_rfl
def Qb6 (C:CT) (B E F H I:Value) (g:G) (n:Nat) (K:Cont):Prop:=
Xf B λJ=>
Xc J λJ M=>
kLd g J (M+7) λO=>
Xf B λP=>
Xc P λP Q=>
kLd g P (Q+0) λP=>
Xf P λP=>
Xc P λP Q=>
kLd g P (Q+0) λP=>
Qf [.int .i64 0,.int .i64 0,.int .i64 0,.int .i64 0,.int .u64 0] [(0,none,E),(1,none,P),(2,none,F),(3,none,H),(4,none,I)] λE=>
Qf (reps 1 [.int .i64 0,.int .i64 0,.int .i64 0,.int .i64 0,.int .u64 0]) [(0,some 5,.agg E.toArray)] λE=>
Zl E .exact g n λE F H=>
(Xc (ptr J (M+7)) λl _=>F l=g l)∧Zs O (.slice (some ⟨E,0,none⟩) 1 1) 5 40 F H λE F H=>
Xf B λB=>
Xc B λB I=>
kSt F B (I+7) E λB=>
Zc K (.tuple #[]) B H
theorem JcX (C:CT) (j I E O J:Value) (g:G) (n:Nat) (K:Cont):Qb6 C j I E O J g n K=Qe Tryz.prog C Zm [j,I,E,O,J] g n K:=by kernel_rfl
def Jb5 (C:CT) (B E F:Value) (g:G) (n:Nat) (K:Cont):Prop:=
Xf B λH=>
Xc H λH I=>
kLd g H (I+0) λH=>
Xf H λH=>
Xc H λH I=>
kLd g H (I+12) λH=>
Jb .int .geq H (.int .i64 16) λH=>
Qa H (
Zc K (.bool false) g n) (
Xf B λH=>
Xc H λH I=>
kLd g H (I+1) λH=>
Xf B λI=>
Xc I λI J=>
kLd g I (J+0) λI=>
Xf I λI=>
Xc I λI J=>
kLd g I (J+0) λI=>
C Xax [H,I,E,F] g n λF H I=>
Jb .int .neq F (.int .i64 0) λF=>
Qa F (
Zc K (.bool false) H I) (
C Zm [B,.int .i64 13,E,.int .i64 0,.int .u64 0] H I λE E F=>
Xf B λB=>
Xc B λB H=>
kLd E B (H+0) λB=>
Xf B λH=>
Xc H λH I=>
kLd E H (I+12) λH=>
Jb .int .add H (.int .i64 1) λH=>
Xf B λB=>
Xc B λB I=>
kSt E B (I+12) H λB=>
Zc K (.bool true) B F))
theorem XcN (C:CT) (j I E:Value) (g:G) (n:Nat) (K:Cont):Jb5 C j I E g n K=Qe Tryz.prog C JM [j,I,E] g n K:=by kernel_rfl
def Jb0 (C:CT) (B:Value) (g:G) (n:Nat) (K:Cont):Prop:=
C ZI [B] g n λE F H=>
Qc E 0 λI=>
Qc E 1 λE=>
Zl [.int .i64 0,.int .i64 0,.int .i64 0,.int .u64 0,.bool false] .exact F H λl2 F n2=>
Jj I λH=>
H.length=5∧Qu F l2 0 H λF=>
Qa E (
kLd F l2 (0+0) λE=>
Jb .int .eql E (.int .i64 14) λE=>
Qa E (
Xf B λE=>
Xc E λE H=>
kLd F E (H+81) λE=>
Xf B λB=>
Xc B λB H=>
Ji (ptr B (H+0)) E 16 5 λB=>
Xc B λB E=>
kSt F B (E+4) (.bool true) λB=>
Zc K (.tuple #[]) B n2) (
Zc K (.tuple #[]) F n2)) (
Zc K (.tuple #[]) F n2)
theorem ZcD (C:CT) (j:Value) (g:G) (n:Nat) (K:Cont):Jb0 C j g n K=Qe Tryz.prog C Qae [j] g n K:=by kernel_rfl
def Zam (C:CT) (K:Cont) (t:Env) (g:G) (n:Nat):Prop:=
Xc (t 4) λB E=>
Ql g B E 5 λB=>
Xc (t 2) λE F=>
Jj (.agg B.toArray) λB=>
B.length=5∧Qu g E F B λB=>
Xc (t 2) λlr0 or0=>
Ql B lr0 or0 5 λr0=>
Zc K (.tuple #[.agg r0.toArray,t 5]) B n
def Jb4 (C:CT) (B:Value) (g:G) (n:Nat) (K:Cont):Prop:=
Zl [.int .i64 0,.int .i64 0,.int .i64 0,.int .u64 0,.bool false] .exact g n λl2 E n2=>
C ZI [B] E n2 λE F H=>
Qc E 0 λI=>
Qc E 1 λJ=>
Zl [.int .i64 0,.int .i64 0,.int .i64 0,.int .u64 0,.bool false] .exact F H λl4 F H=>
Jj I λM=>
M.length=5∧Qu F l4 0 M λF=>
Qa J (
Xf B λM=>
Xc M λO P=>
kLd F O (P+81) λQ=>
Qf [.int .i64 0,.int .i64 0,.int .i64 0,.int .u64 0,.bool false] [] λR=>
Xf B λT=>
Xc T λU V=>
Ji (ptr U (V+0)) Q 16 5 λW=>
Xc W λX Y=>
Jj (.agg R.toArray) λZ=>
Z.length=5∧Qu F X Y Z λX=>
Xf B λY=>
Xc Y λZ j=>
kLd X Z (j+82) λt=>
Jb .int .sub t (.int .i64 1) λw=>
C QD [B,.int .i64 1] X H λAA AB AD=>
(Xc (ptr Z (j+82)) λl _=>AB l=X l)∧Xf B λX=>
Xc X λAE AF=>
kSt AB AE (AF+81) AA λAB=>
Xf B λAG=>
Xc AG λAH AI=>
kSt AB AH (AI+82) w λAB=>
Zam C K (puts (Qi [B]) [(2,ptr l2 0),(3,.bool false),(7,B),(8,E),(6,E),(9,I),(10,J),(4,ptr l4 0),(5,J),(11,J),(12,B),(13,B),(14,M),(15,(ptr O (P+81))),(16,Q),(17,.agg R.toArray),(18,T),(19,(ptr U (V+0))),(20,W),(21,B),(22,B),(23,B),(25,B),(26,Y),(27,(ptr Z (j+82))),(28,t),(29,w),(24,AA),(30,X),(31,(ptr AE (AF+81))),(32,AG),(33,(ptr AH (AI+82)))]) AB AD) (
Zam C K (puts (Qi [B]) [(2,ptr l2 0),(3,.bool false),(7,B),(8,E),(6,E),(9,I),(10,J),(4,ptr l4 0),(5,J),(11,J)]) F H)
theorem JcV (C:CT) (j:Value) (g:G) (n:Nat) (K:Cont):Jb4 C j g n K=Qe Tryz.prog C QaK [j] g n K:=by kernel_rfl
def JbZ (C:CT) (K:Cont) (I_l1:Qk) (t:Env) (g:G) (n:Nat):Prop:=
Jb .int .lss (t 30) (t 29) λB=>
Qa B (
Jd (t 28) (t 30) 1 λE=>
Xc E λF H=>
kLd g F H λF=>
C ZQ [t 0,F,t 4] g n λH I J=>
Jb .int .add (t 30) (.int .i64 1) λM=>
I_l1 (puts t [(31,B),(32,E),(33,F),(11,F),(34,t 0),(35,F),(36,t 4),(37,H),(38,M),(30,M)]) I J) (
Zc K (.tuple #[]) g n)
def QcZ (C:CT) (B E F H I:Value) (g:G) (n:Nat) (K:Cont):Prop:=
Xf B λJ=>
Xc J λM O=>
kSt g M (O+0+12) E λP=>
Xf B λQ=>
Xc Q λR T=>
kSt P R (T+0+13) F λP=>
Xf B λU=>
Xc U λV W=>
kSt P V (W+0+14) H λP=>
C JbR [H] P n λP X Y=>
Jak P λZ=>
lfp (JbZ C K) (puts (Qi [B,E,F,H,I]) [(12,B),(13,B),(14,B),(15,E),(16,F),(17,H),(18,J),(19,(ptr M (O+0))),(20,(ptr M (O+0+12))),(21,Q),(22,(ptr R (T+0))),(23,(ptr R (T+0+13))),(24,U),(25,(ptr V (W+0))),(26,(ptr V (W+0+14))),(27,H),(28,P),(29,Z),(30,.int .i64 0)]) X Y
theorem Zdl (C:CT) (j I E O J:Value) (g:G) (n:Nat) (K:Cont):QcZ C j I E O J g n K=Qe Tryz.prog C J3 [j,I,E,O,J] g n K:=by kernel_rfl
def QbU (C:CT) (B:Value) (g:G) (n:Nat) (K:Cont):Prop:=
Xf B λE=>
Xc E λl5 o5=>
kLd g l5 (o5+0+11) λE=>
Xf B λB=>
Xc B λB F=>
kLd g B (F+0+10) λB=>
C Jv [B] g n λB F H=>
(Xc (ptr l5 (o5+0+11)) λl _=>F l=g l)∧Jb .int .or E B λB=>
Zc K B F H
theorem JcE (C:CT) (j:Value) (g:G) (n:Nat) (K:Cont):QbU C j g n K=Qe Tryz.prog C Jah [j] g n K:=by kernel_rfl
def Xde (C:CT) (B E:Value) (g:G) (n:Nat) (K:Cont):Prop:=
Xf B λF=>
Xc F λl6 F=>
C ZaJ [(ptr l6 (F+0))] g n λF H I=>
kUn .not F λF=>
Qa F (
C JcH [B,E] H I λB B E=>
Zc K (.tuple #[]) B E) (
Zc K (.tuple #[]) H I)
theorem Qdv (C:CT) (j E:Value) (g:G) (n:Nat) (K:Cont):Xde C j E g n K=Qe Tryz.prog C Xbj [j,E] g n K:=by kernel_rfl
def Jb8 (C:CT) (B:Value) (g:G) (n:Nat) (K:Cont):Prop:=
Xc B λl4 E=>
kLd g l4 E λE=>
Xf E λE=>
Xc E λl6 E=>
kLd g l6 (E+3) λE=>
C XbP [E] g n λE F H=>
Qc E 0 λI=>
Qc E 1 λE=>
Zl [.int .i64 0,.int .i64 0,.int .i64 0,.int .i64 0,.int .i64 0] .exact F H λl1 F n1=>
Jj I λH=>
H.length=5∧Qu F l1 0 H λF=>
Xc B λH I=>
kLd F H I λH=>
Xc B λI J=>
kLd F I J λI=>
Ql F l1 0 5 λJ=>
Jb .int .eql E (.int .i64 0) λE=>
Xf H λH=>
Xc H λH M=>
Jj (.agg J.toArray) λJ=>
J.length=5∧Qu F H (M+4) J λH=>
(Xc B λl _=>H l=F l)∧Xf I λB=>
Xc B λB F=>
kSt H B (F+9) E λB=>
Zc K (.tuple #[]) B n1
theorem ZcY (C:CT) (j:Value) (g:G) (n:Nat) (K:Cont):Jb8 C j g n K=Qe Tryz.prog C JaL [j] g n K:=by kernel_rfl
def Qea (C:CT) (B:Value) (g:G) (n:Nat) (K:Cont):Prop:=
Zl [.int .i64 0,.int .i64 0,.int .i64 0,.int .i64 0,.int .i64 0] .exact g n λl2 E n2=>
XaQ .u8 B λF=>
XaQ .i64 F λF=>
Jb .int .shr B (.int .u64 8) λH=>
Jb .int .and H (.int .u64 15) λH=>
XaQ .i64 H λH=>
Jb .int .shr B (.int .u64 12) λI=>
Jb .int .and I (.int .u64 15) λI=>
XaQ .i64 I λI=>
Jb .int .shr B (.int .u64 16) λJ=>
Jb .int .and J (.int .u64 15) λJ=>
XaQ .i64 J λJ=>
XaQ .i64 B λM=>
Jb .int .shr M (.int .u64 32) λM=>
Qf [.int .i64 0,.int .i64 0,.int .i64 0,.int .i64 0,.int .i64 0] [(0,none,F),(1,none,H),(2,none,I),(3,none,J),(4,none,M)] λF=>
Zl [.int .i64 0,.int .i64 0,.int .i64 0,.int .i64 0,.int .i64 0] .exact E n2 λl4 E H=>
Jj (.agg F.toArray) λF=>
F.length=5∧Qu E l4 0 F λE=>
XaQ .u32 B λB=>
Jb .int .shr B (.int .u64 20) λB=>
Jb .int .neq B (.int .u32 0) λB=>
Qa B (
Qf [.int .i64 0,.int .i64 0,.int .i64 0,.int .i64 0,.int .i64 0] [] λB=>
Jj (.agg B.toArray) λF=>
F.length=5∧Qu E l2 0 F λF=>
Ql F l2 0 5 λr0=>
Zc K (.tuple #[.agg r0.toArray,.int .i64 11]) F H) (
Ql E l4 0 5 λF=>
C XbT [.agg F.toArray] E H λE F H=>
kUn .not E λE=>
Qa E (
Qf [.int .i64 0,.int .i64 0,.int .i64 0,.int .i64 0,.int .i64 0] [] λB=>
Jj (.agg B.toArray) λB=>
B.length=5∧Qu F l2 0 B λB=>
Ql B l2 0 5 λr0=>
Zc K (.tuple #[.agg r0.toArray,.int .i64 11]) B H) (
Ql F l4 0 5 λB=>
Jj (.agg B.toArray) λB=>
B.length=5∧Qu F l2 0 B λB=>
Ql B l2 0 5 λr0=>
Zc K (.tuple #[.agg r0.toArray,.int .i64 0]) B H))
theorem Qet (C:CT) (j:Value) (g:G) (n:Nat) (K:Cont):Qea C j g n K=Qe Tryz.prog C XbP [j] g n K:=by kernel_rfl
def Xbu (C:CT) (B:Value) (g:G) (n:Nat) (K:Cont):Prop:=
Xf B λB=>
Xc B λl4 B=>
kLd g l4 (B+0) λB=>
Xf B λE=>
Xc E λl7 E=>
kLd g l7 (E+9) λE=>
Jb .int .add E (.int .i64 1) λE=>
Xf B λB=>
Xc B λB F=>
kSt g B (F+9) E λB=>
Zc K (.tuple #[]) B n
theorem JbF (C:CT) (j:Value) (g:G) (n:Nat) (K:Cont):Xbu C j g n K=Qe Tryz.prog C Xs [j] g n K:=by kernel_rfl
def Qau (C:CT) (K:Cont) (t:Env) (g:G) (n:Nat):Prop:=
C Zm [t 0,t 5,t 2,t 3,t 6] g n λB B E=>
Xf (t 0) λF=>
Xc F λF H=>
kLd B F (H+0) λF=>
Xf (t 0) λH=>
Xc H λH I=>
kLd B H (I+2+1) λH=>
Xf F λF=>
Xc F λF I=>
Ji (ptr F (I+1)) H 8 1 λF=>
Xc F λF H=>
kSt B F H (t 6) λB=>
C Xs [t 0] B E λB B E=>
Zc K (.tuple #[]) B E
def Jcw (C:CT) (B:Value) (g:G) (n:Nat) (K:Cont):Prop:=
C Xaq [B] g n λE F H=>
Qc E 0 λI=>
Qc E 1 λJ=>
Qc E 2 λM=>
kUn .not M λO=>
Qa O (
Zc K (.tuple #[]) F H) (
Xf B λP=>
Xc P λQ R=>
kLd F Q (R+0) λT=>
Xf T λU=>
Xc U λV W=>
kLd F V (W+11) λX=>
C ZaF [X,I,J] F H λF H Y=>
Qc F 0 λZ=>
Qc F 1 λj=>
kUn .not j λt=>
Qa t (
Xf B λw=>
Xc w λAA AB=>
kLd H AA (AB+1) λAD=>
Xf B λAE=>
Xc AE λAF AG=>
kLd H AF (AG+0) λAH=>
Xf AH λAI=>
Xc AI λAJ AL=>
kLd H AJ (AL+0) λAM=>
C Xag [AD,AM,I,J] H Y λAN AO AP=>
Qc AN 0 λAQ=>
Qc AN 1 λAR=>
kUn .not AR λAT=>
Qa AT (
Zc K (.tuple #[]) AO AP) (
Qau C K (puts (Qi [B]) [(8,B),(9,E),(7,E),(10,I),(11,J),(12,M),(2,I),(3,J),(4,M),(13,M),(14,O),(5,.int .i64 2),(16,B),(17,P),(18,(ptr Q (R+0))),(19,T),(20,U),(21,(ptr V (W+11))),(22,X),(23,I),(24,J),(25,F),(15,F),(26,Z),(27,j),(6,Z),(4,j),(28,j),(29,t),(5,.int .i64 1),(31,B),(32,w),(33,(ptr AA (AB+1))),(34,AD),(35,B),(36,AE),(37,(ptr AF (AG+0))),(38,AH),(39,AI),(40,(ptr AJ (AL+0))),(41,AM),(42,I),(43,J),(44,AN),(30,AN),(45,AQ),(46,AR),(6,AQ),(4,AR),(47,AR),(48,AT)]) AO AP)) (
Qau C K (puts (Qi [B]) [(8,B),(9,E),(7,E),(10,I),(11,J),(12,M),(2,I),(3,J),(4,M),(13,M),(14,O),(5,.int .i64 2),(16,B),(17,P),(18,(ptr Q (R+0))),(19,T),(20,U),(21,(ptr V (W+11))),(22,X),(23,I),(24,J),(25,F),(15,F),(26,Z),(27,j),(6,Z),(4,j),(28,j),(29,t)]) H Y))
theorem Jc1 (C:CT) (j:Value) (g:G) (n:Nat) (K:Cont):Jcw C j g n K=Qe Tryz.prog C JaT [j] g n K:=by kernel_rfl
def ZaB (C:CT) (K:Cont) (J:Qk) (t:Env) (g:G) (n:Nat):Prop:=
J t g n
def XE (C:CT) (K:Cont) (t:Env) (g:G) (n:Nat):Prop:=
Xf (t 0) λB=>
Xc B λB E=>
kLd g B (E+2+0) λB=>
Jb .int .eql B (.int .i64 9) λB=>
Qa B (
Xc (t 5) λB E=>
kLd g B (E+3) λB=>
C Zm [t 0,.int .i64 12,t 2,t 3,B] g n λB B E=>
C Xs [t 0] B E λB E F=>
Zc K (.tuple #[]) E F) (
C Zm [t 0,.int .i64 14,t 2,.int .i64 0,.int .u64 0] g n λE E H=>
C Xs [t 0] E H λB B F=>
Zc K (.tuple #[]) B F)
def J6 (C:CT) (K:Cont) (J:Qk) (t:Env) (g:G) (n:Nat):Prop:=
Xf (t 0) λB=>
Xc B λE F=>
kLd g E (F+0) λH=>
Xf H λI=>
Xc I λM O=>
kLd g M (O+11) λP=>
Xc (t 5) λQ R=>
Ql g Q R 5 λQ=>
C JaE [P,.agg Q.toArray] g n λR T U=>
Jb .int .neq R (.int .i64 0) λV=>
Qa V (
Zc K (.tuple #[]) T U) (
J (puts t [(43,t 0),(44,B),(45,(ptr E (F+0))),(46,H),(47,I),(48,(ptr M (O+11))),(49,P),(50,.agg Q.toArray),(51,R),(52,V)]) T U)
def Zbe (C:CT) (B:Value) (J:Qk) (g:G) (n:Nat) (K:Cont):Prop:=
C Xaq [B] g n λE F H=>
Qc E 0 λI=>
Qc E 1 λM=>
Qc E 2 λO=>
kUn .not O λP=>
Qa P (
Zc K (.tuple #[]) F H) (
Xf B λQ=>
Xc Q λR T=>
kLd F R (T+2+0) λU=>
Qf [.int .i64 0,.int .i64 0,.int .i64 0,.int .u64 0,.bool false] [(0,none,U),(1,none,I)] λV=>
Zl [.int .i64 0,.int .i64 0,.int .i64 0,.int .u64 0,.bool false] .exact F H λl5 F n5=>
Jj (.agg V.toArray) λH=>
H.length=5∧Qu F l5 0 H λF=>
Xf B λH=>
Xc H λW X=>
kLd F W (X+2+0) λY=>
Jb .int .eql Y (.int .i64 9) λZ=>
Qa Z (
Xf B λj=>
Xc j λt w=>
kLd F t (w+0) λAA=>
Xf B λAB=>
Xc AB λAD AE=>
kLd F AD (AE+2+1) λAF=>
Xf AA λAG=>
Xc AG λAH AI=>
Ji (ptr AH (AI+1)) AF 8 1 λAJ=>
Xc AJ λAL AM=>
kLd F AL AM λAL=>
kSt F l5 (0+2) M λAM=>
(Xc (ptr t (w+0)) λl _=>AM l=F l)∧(Xc (ptr AD (AE+2+1)) λl _=>AM l=F l)∧(Xc AJ λl _=>AM l=F l)∧kSt AM l5 (0+3) AL λAM=>
ZaB C K J (puts (Qi [B]) [(7,B),(8,E),(6,E),(9,I),(10,M),(11,O),(2,I),(3,M),(4,O),(12,O),(13,P),(14,B),(15,Q),(16,(ptr R (T+2))),(17,(ptr R (T+2+0))),(18,U),(19,I),(20,.agg V.toArray),(5,ptr l5 0),(21,B),(22,H),(23,(ptr W (X+2))),(24,(ptr W (X+2+0))),(25,Y),(26,Z),(27,M),(28,B),(29,j),(30,(ptr t (w+0))),(31,AA),(32,B),(33,AB),(34,(ptr AD (AE+2))),(35,(ptr AD (AE+2+1))),(36,AF),(37,AG),(38,(ptr AH (AI+1))),(39,AJ),(40,AL),(41,(ptr l5 (0+2))),(42,(ptr l5 (0+3)))]) AM n5) (
ZaB C K J (puts (Qi [B]) [(7,B),(8,E),(6,E),(9,I),(10,M),(11,O),(2,I),(3,M),(4,O),(12,O),(13,P),(14,B),(15,Q),(16,(ptr R (T+2))),(17,(ptr R (T+2+0))),(18,U),(19,I),(20,.agg V.toArray),(5,ptr l5 0),(21,B),(22,H),(23,(ptr W (X+2))),(24,(ptr W (X+2+0))),(25,Y),(26,Z)]) F n5))
def QbN (C:CT) (B:Value) (g:G) (n:Nat) (K:Cont):Prop:=Zbe C B (J6 C K (XE C K)) g n K
theorem Jb2 (C:CT) (t:Env) (g:G) (n:Nat) (K:Cont):XE C K t g n=Jag Tryz.prog C [1,1,1,1,1] Xy K t g n:=by kernel_rfl
theorem Jce (C:CT) (K:Cont):XE C K=Jag Tryz.prog C [1,1,1,1,1] Xy K:=funext λt=>funext λg=>funext λn=>Jb2 C t g n K
theorem Qb2 (C:CT) (J:Qk) (t:Env) (g:G) (n:Nat) (K:Cont):J6 C K J t g n=Qbb Tryz.prog C [1,1,1,1] [1] J Xy K t g n:=by kernel_rfl
theorem Qcj (C:CT) (K:Cont):J6 C K (XE C K)=Jag Tryz.prog C [1,1,1,1] Xy K:=by
 rw [Jce]
 exact (funext λt=>funext λg=>funext λn=>Qb2 C _ t g n K).trans (Za9 Tryz.prog C [1,1,1,1] [1] Xy K)
theorem Qb5 (C:CT) (j:Value) (J:Qk) (g:G) (n:Nat) (K:Cont):Zbe C j J g n K=ZbP Tryz.prog C [1,1,1,1] J Xy [j] g n K:=by kernel_rfl
theorem Xdk (C:CT) (j:Value) (g:G) (n:Nat) (K:Cont):QbN C j g n K=Qe Tryz.prog C Xy [j] g n K:=by
 unfold QbN
 rw [Qb5,Qcj]
 exact Xbe Tryz.prog C [1,1,1,1] Xy [j] g n K
def Zb6 (C:CT) (B:Value) (g:G) (n:Nat) (K:Cont):Prop:=
C Zal [B] g n λE F n3=>
Qa E (
C Zm [B,.int .i64 7,.int .i64 0,.int .i64 0,.int .u64 0] F n3 λE E n5=>
C Xs [B] E n5 λB B E=>
Zc K (.tuple #[]) B E) (
Zc K (.tuple #[]) F n3)
theorem JcK (C:CT) (j:Value) (g:G) (n:Nat) (K:Cont):Zb6 C j g n K=Qe Tryz.prog C XaM [j] g n K:=by kernel_rfl
def Qaf (C:CT) (K:Cont) (J:Qk) (t:Env) (g:G) (n:Nat):Prop:=
J t g n
def Xaf (C:CT) (K:Cont) (t:Env) (g:G) (n:Nat):Prop:=
Xf (t 0) λB=>
Xc B λB E=>
kLd g B (E+0) λB=>
Xf (t 0) λE=>
Xc E λE F=>
kLd g E (F+2+1) λE=>
Xf B λB=>
Xc B λB F=>
Ji (ptr B (F+1)) E 8 1 λB=>
Xc B λB E=>
kSt g B E (t 5) λB=>
C Xs [t 0] B n λB B E=>
Zc K (.tuple #[]) B E
def Zy (C:CT) (K:Cont) (t:Env) (g:G) (n:Nat):Prop:=
Qa (t 8) (
Xf (t 0) λB=>
Xc B λE F=>
kLd g E (F+1) λH=>
Xf (t 0) λI=>
Xc I λJ M=>
kLd g J (M+0) λO=>
Xf O λP=>
Xc P λQ R=>
kLd g Q (R+0) λT=>
C Z9 [H,T,t 2,t 3,t 7] g n λU V W=>
C Zm [t 0,.int .i64 3,t 2,t 3,t 7] V W λV W X=>
Xaf C K (puts t [(97,t 8),(98,t 0),(99,B),(100,(ptr E (F+1))),(101,H),(102,t 0),(103,I),(104,(ptr J (M+0))),(105,O),(106,P),(107,(ptr Q (R+0))),(108,T),(109,t 2),(110,t 3),(111,t 7),(112,U),(113,t 0),(114,t 2),(115,t 3),(116,t 7),(117,V)]) W X) (
Xaf C K (puts t [(97,t 8)]) g n)
def XL (C:CT) (K:Cont) (J:Qk) (t:Env) (g:G) (n:Nat):Prop:=
Xf (t 0) λB=>
Xc B λE F=>
kLd g E (F+0) λH=>
Xf (t 0) λI=>
Xc I λM O=>
kLd g M (O+2+3) λP=>
Xf H λQ=>
Xc Q λR T=>
Ji (ptr R (T+1)) P 8 1 λU=>
Xc U λV W=>
kLd g V W λV=>
Xf (t 0) λW=>
Xc W λX Y=>
kLd g X (Y+0) λZ=>
Xf (t 0) λj=>
Xc j λw AA=>
kLd g w (AA+2+1) λAB=>
Xf Z λAD=>
Xc AD λAE AF=>
Ji (ptr AE (AF+1)) AB 8 1 λAG=>
Xc AG λAH AI=>
kLd g AH AI λAH=>
Jb .int .eql (t 5) AH λAI=>
Xf (t 0) λAJ=>
Xc AJ λAL AM=>
kLd g AL (AM+2+0) λAN=>
Jb .int .eql AN (.int .i64 11) λAO=>
Qa AO (
Jb .int .add (t 5) V λAP=>
Qaf C K J (puts t [(60,t 0),(61,B),(62,(ptr E (F+0))),(63,H),(64,t 0),(65,I),(66,(ptr M (O+2))),(67,(ptr M (O+2+3))),(68,P),(69,Q),(70,(ptr R (T+1))),(71,U),(72,V),(73,t 5),(74,t 0),(75,W),(76,(ptr X (Y+0))),(77,Z),(78,t 0),(79,j),(80,(ptr w (AA+2))),(81,(ptr w (AA+2+1))),(82,AB),(83,AD),(84,(ptr AE (AF+1))),(85,AG),(86,AH),(87,AI),(7,V),(8,AI),(88,t 0),(89,AJ),(90,(ptr AL (AM+2))),(91,(ptr AL (AM+2+0))),(92,AN),(93,AO),(94,t 5),(95,V),(96,AP),(7,AP),(8,.bool true)]) g n) (
Qaf C K J (puts t [(60,t 0),(61,B),(62,(ptr E (F+0))),(63,H),(64,t 0),(65,I),(66,(ptr M (O+2))),(67,(ptr M (O+2+3))),(68,P),(69,Q),(70,(ptr R (T+1))),(71,U),(72,V),(73,t 5),(74,t 0),(75,W),(76,(ptr X (Y+0))),(77,Z),(78,t 0),(79,j),(80,(ptr w (AA+2))),(81,(ptr w (AA+2+1))),(82,AB),(83,AD),(84,(ptr AE (AF+1))),(85,AG),(86,AH),(87,AI),(7,V),(8,AI),(88,t 0),(89,AJ),(90,(ptr AL (AM+2))),(91,(ptr AL (AM+2+0))),(92,AN),(93,AO)]) g n)
def ZaL (C:CT) (B:Value) (J:Qk) (g:G) (n:Nat) (K:Cont):Prop:=
C Xaq [B] g n λE F H=>
Qc E 0 λI=>
Qc E 1 λM=>
Qc E 2 λO=>
kUn .not O λP=>
Qa P (
Zc K (.tuple #[]) F H) (
C Zal [B] F H λF H Q=>
kUn .not F λR=>
Qa R (
Zc K (.tuple #[]) H Q) (
Xf B λT=>
Xc T λU V=>
kLd H U (V+1) λW=>
Xf B λX=>
Xc X λY Z=>
kLd H Y (Z+0) λj=>
Xf j λt=>
Xc t λw AA=>
kLd H w (AA+0) λAB=>
C Qax [W,AB,I] H Q λH Q AD=>
kUn .not H λAE=>
Qa AE (
Zc K (.tuple #[]) Q AD) (
Xf B λAF=>
Xc AF λAG AH=>
kLd Q AG (AH+1) λAI=>
Xf B λAJ=>
Xc AJ λAL AM=>
kLd Q AL (AM+0) λAN=>
Xf AN λAO=>
Xc AO λAP AQ=>
kLd Q AP (AQ+0) λAR=>
C Xag [AI,AR,I,M] Q AD λQ AD AT=>
Qc Q 0 λAU=>
Qc Q 1 λAV=>
C Zm [B,.int .i64 4,I,M,AU] AD AT λAD AT AW=>
J (puts (Qi [B]) [(10,B),(11,E),(9,E),(12,I),(13,M),(14,O),(2,I),(3,M),(4,O),(15,O),(16,P),(17,.bool false),(18,B),(19,F),(20,R),(21,R),(22,.bool false),(23,B),(24,T),(25,(ptr U (V+1))),(26,W),(27,B),(28,X),(29,(ptr Y (Z+0))),(30,j),(31,t),(32,(ptr w (AA+0))),(33,AB),(34,I),(35,H),(36,AE),(37,AE),(39,B),(40,AF),(41,(ptr AG (AH+1))),(42,AI),(43,B),(44,AJ),(45,(ptr AL (AM+0))),(46,AN),(47,AO),(48,(ptr AP (AQ+0))),(49,AR),(50,I),(51,M),(52,Q),(38,Q),(53,AU),(54,AV),(5,AU),(6,AV),(55,B),(56,I),(57,M),(58,AU),(59,AD)]) AT AW)))
def Qa4 (C:CT) (B:Value) (g:G) (n:Nat) (K:Cont):Prop:=ZaL C B (XL C K (Zy C K)) g n K
theorem Jbt (C:CT) (t:Env) (g:G) (n:Nat) (K:Cont):Zy C K t g n=Jag Tryz.prog C [1,1,1,1,1,1] Xr K t g n:=by kernel_rfl
theorem XbD (C:CT) (K:Cont):Zy C K=Jag Tryz.prog C [1,1,1,1,1,1] Xr K:=funext λt=>funext λg=>funext λn=>Jbt C t g n K
theorem Jbr (C:CT) (J:Qk) (t:Env) (g:G) (n:Nat) (K:Cont):XL C K J t g n=Qbb Tryz.prog C [1,1,1,1] [1,1] J Xr K t g n:=by kernel_rfl
theorem Qbz (C:CT) (K:Cont):XL C K (Zy C K)=Jag Tryz.prog C [1,1,1,1] Xr K:=by
 rw [XbD]
 exact (funext λt=>funext λg=>funext λn=>Jbr C _ t g n K).trans (Za9 Tryz.prog C [1,1,1,1] [1,1] Xr K)
theorem QbC (C:CT) (j:Value) (J:Qk) (g:G) (n:Nat) (K:Cont):ZaL C j J g n K=ZbP Tryz.prog C [1,1,1,1] J Xr [j] g n K:=by kernel_rfl
theorem QcA (C:CT) (j:Value) (g:G) (n:Nat) (K:Cont):Qa4 C j g n K=Qe Tryz.prog C Xr [j] g n K:=by
 unfold Qa4
 rw [QbC,Qbz]
 exact Xbe Tryz.prog C [1,1,1,1] Xr [j] g n K
def XbY (C:CT) (B:Value) (g:G) (n:Nat) (K:Cont):Prop:=
Xf B λE=>
Xc E λE F=>
kLd g E (F+0) λH=>
Xf H λH=>
Xc H λH I=>
Xf B λJ=>
Xc J λJ M=>
Ql g J (M+2) 5 λO=>
Zl [.int .i64 0,.int .i64 0,.int .i64 0,.int .i64 0,.int .i64 0] .exact g n λl3 P n3=>
(Xc (ptr E (F+0)) λl _=>P l=g l)∧(Xc (ptr J (M+2)) λl _=>P l=g l)∧Jj (.agg O.toArray) λE=>
E.length=5∧Qu P l3 0 E λE=>
C Xs [B] E n3 λE E F=>
kLd E l3 (0+0) λJ=>
kLd E l3 (0+2) λM=>
Ji (ptr H (I+1)) M 8 1 λM=>
Xc M λM O=>
kLd E M O λM=>
kLd E l3 (0+3) λO=>
Ji (ptr H (I+1)) O 8 1 λO=>
Xc O λO P=>
kLd E O P λO=>
C XdE [J,M,O] E F λE F J=>
Qc E 0 λM=>
Qc E 1 λE=>
Qa E (
kLd F l3 (0+1) λE=>
Ji (ptr H (I+1)) E 8 1 λE=>
Xc E λE O=>
kSt F E O M λE=>
Zc K (.tuple #[]) E J) (
kLd F l3 (0+0) λE=>
kLd F l3 (0+1) λM=>
Ji (ptr H (I+1)) M 8 1 λM=>
Xc M λM O=>
kLd F M O λM=>
kLd F l3 (0+2) λO=>
Ji (ptr H (I+1)) O 8 1 λH=>
Xc H λH I=>
kLd F H I λH=>
C Xcz [E,M,H] F J λE F H=>
Qc E 0 λI=>
Qc E 1 λE=>
Qa I (
Xf B λB=>
Xc B λB E=>
kLd F B (E+0) λB=>
kLd F l3 (0+4) λE=>
Xf B λB=>
Xc B λB I=>
kSt F B (I+9) E λB=>
Zc K (.tuple #[]) B H) (
Zc K (.tuple #[]) F H))
theorem Qcy (C:CT) (j:Value) (g:G) (n:Nat) (K:Cont):XbY C j g n K=Qe Tryz.prog C QaD [j] g n K:=by kernel_rfl
def JcN (C:CT) (K:Cont) (I_l1:Qk) (t:Env) (g:G) (n:Nat):Prop:=
Jb .int .lss (t 5) (.int .i64 8) λB=>
Qa B (
C QbT [t 0,t 5] g n λE F H=>
Qa E (
Qf (reps 1 [.int .i64 0]) [(0,none,t 5)] λI=>
Zl I .exact F H λI J M=>
Zs (t 3) (.slice (some ⟨I,0,none⟩) 1 1) 1 8 J M λJ M O=>
Jb .int .add (t 5) (.int .i64 1) λP=>
I_l1 (puts t [(6,B),(7,t 5),(4,t 5),(8,t 0),(9,t 5),(10,E),(11,t 3),(12,t 5),(13,(.slice (some ⟨I,0,none⟩) 1 1)),(14,J),(3,J),(15,P),(5,P)]) M O) (
Jb .int .add (t 5) (.int .i64 1) λP=>
I_l1 (puts t [(6,B),(7,t 5),(4,t 5),(8,t 0),(9,t 5),(10,E),(15,P),(5,P)]) F H)) (
Zc K (t 3) g n)
def JdZ (C:CT) (B:Value) (g:G) (n:Nat) (K:Cont):Prop:=
lfp (JcN C K) (puts (Qi [B]) [(2,.slice none 0 0),(3,.slice none 0 0),(5,.int .i64 0)]) g n
theorem Qen (C:CT) (j:Value) (g:G) (n:Nat) (K:Cont):JdZ C j g n K=Qe Tryz.prog C JbR [j] g n K:=by kernel_rfl
def Za0 (C:CT) (B:Value) (g:G) (n:Nat) (K:Cont):Prop:=
Xf B λB=>
Xc B λl5 o5=>
C Jbs [(ptr l5 (o5+0))] g n λB E F=>
Jb .int .neq B (.int .u32 0) λB=>
Zc K B E F
theorem ZbH (C:CT) (j:Value) (g:G) (n:Nat) (K:Cont):Za0 C j g n K=Qe Tryz.prog C ZaJ [j] g n K:=by kernel_rfl
def QdG (C:CT) (K:Cont) (t:Env) (g:G) (n:Nat):Prop:=
Xc (t 1) λB E=>
kLd g B (E+4) λB=>
Jb .int .geq B (.int .i64 (-2147483648)) λB=>
Qa B (
Xc (t 1) λB E=>
kLd g B (E+4) λB=>
Jb .int .leq B (.int .i64 2147483647) λB=>
Qa B (
Xc (t 1) λB E=>
kLd g B (E+4) λB=>
Jb .int .geq B (.int .i64 0) λB=>
Qa B (
Zc K (.bool true) g n) (
Xc (t 1) λB E=>
kLd g B (E+0) λB=>
C Jcc [B] g n λB E F=>
kUn .not B λB=>
Zc K B E F)) (
Zc K (.bool false) g n)) (
Zc K (.bool false) g n)
def JaH (C:CT) (K:Cont) (t:Env) (g:G) (n:Nat):Prop:=
Qa (t 7) (
Zc K (.bool false) g n) (
C XI [t 3,(.string ⟨#[73]⟩)] g n λB E F=>
kUn .not B λH=>
Qa H (
Xc (t 1) λI J=>
kLd E I (J+4) λI=>
Jb .int .eql I (.int .i64 0) λI=>
Zc K I E F) (
QdG C K (puts t [(31,t 3),(32,B),(33,H),(30,H)]) E F))
def Xed (C:CT) (B:Value) (g:G) (n:Nat) (K:Cont):Prop:=
Jj B λc1=>
Zl c1 .exact g n λl1 E n1=>
kLd E l1 (0+0) λF=>
C Qn [F] E n1 λE H I=>
kLd H l1 (0+0) λJ=>
C Xc0 [J] H I λH I M=>
kUn .not H λO=>
Qa O (
JaH C K (puts (Qi [B]) [(1,ptr l1 0),(2,.bool false),(4,(ptr l1 (0+0))),(5,F),(6,E),(3,E),(8,(ptr l1 (0+0))),(9,J),(10,H),(11,O),(7,O)]) I M) (
kLd I l1 (0+1) λP=>
C XI [E,(.string ⟨#[65]⟩)] I M λM Q R=>
(Xc (ptr l1 (0+1)) λl _=>Q l=I l)∧C Zap [P,M] Q R λI Q R=>
kUn .not I λT=>
Qa T (
JaH C K (puts (Qi [B]) [(1,ptr l1 0),(2,.bool false),(4,(ptr l1 (0+0))),(5,F),(6,E),(3,E),(8,(ptr l1 (0+0))),(9,J),(10,H),(11,O),(7,O),(12,(ptr l1 (0+1))),(13,P),(14,E),(15,M),(16,I),(17,T),(7,T)]) Q R) (
kLd Q l1 (0+2) λU=>
C XI [E,(.string ⟨#[66]⟩)] Q R λR V W=>
(Xc (ptr l1 (0+2)) λl _=>V l=Q l)∧C Zap [U,R] V W λQ V W=>
kUn .not Q λX=>
Qa X (
JaH C K (puts (Qi [B]) [(1,ptr l1 0),(2,.bool false),(4,(ptr l1 (0+0))),(5,F),(6,E),(3,E),(8,(ptr l1 (0+0))),(9,J),(10,H),(11,O),(7,O),(12,(ptr l1 (0+1))),(13,P),(14,E),(15,M),(16,I),(17,T),(7,T),(18,(ptr l1 (0+2))),(19,U),(20,E),(21,R),(22,Q),(23,X),(7,X)]) V W) (
kLd V l1 (0+3) λY=>
C XI [E,(.string ⟨#[67]⟩)] V W λW Z j=>
(Xc (ptr l1 (0+3)) λl _=>Z l=V l)∧C Zap [Y,W] Z j λV Z j=>
kUn .not V λt=>
JaH C K (puts (Qi [B]) [(1,ptr l1 0),(2,.bool false),(4,(ptr l1 (0+0))),(5,F),(6,E),(3,E),(8,(ptr l1 (0+0))),(9,J),(10,H),(11,O),(7,O),(12,(ptr l1 (0+1))),(13,P),(14,E),(15,M),(16,I),(17,T),(7,T),(18,(ptr l1 (0+2))),(19,U),(20,E),(21,R),(22,Q),(23,X),(7,X),(24,(ptr l1 (0+3))),(25,Y),(26,E),(27,W),(28,V),(29,t),(7,t)]) Z j)))
theorem Jdu (C:CT) (j:Value) (g:G) (n:Nat) (K:Cont):Xed C j g n K=Qe Tryz.prog C XbT [j] g n K:=by kernel_rfl
def Xdc (C:CT) (B:Value) (g:G) (n:Nat) (K:Cont):Prop:=
Xf B λE=>
Xc E λE F=>
kLd g E (F+1) λE=>
Xf B λF=>
Xc F λF H=>
kLd g F (H+0) λI=>
Xf B λJ=>
Xc J λJ M=>
kLd g J (M+2+2) λO=>
Xf I λI=>
Xc I λI P=>
Ji (ptr I (P+1)) O 8 1 λI=>
Xc I λO P=>
kLd g O P λO=>
Xf B λP=>
Xc P λP Q=>
kLd g P (Q+2+4) λR=>
C QK [E] g n λE T U=>
(Xc (ptr F (H+0)) λl _=>T l=g l)∧(Xc (ptr J (M+2+2)) λl _=>T l=g l)∧(Xc I λl _=>T l=g l)∧(Xc (ptr P (Q+2+4)) λl _=>T l=g l)∧Jj E λE=>
Xbf E 1 none λE=>
C Jc5 [O,R] T U λF H I=>
C Qc9 [E,F] H I λE F H=>
Qc E 0 λI=>
Qc E 1 λJ=>
Qc E 2 λE=>
Jb .int .neq E (.int .i64 0) λE=>
Qa E (
C Jas [B] F H λB B E=>
Zc K (.tuple #[.int .i64 0,.int .i64 0,.bool false]) B E) (
Zc K (.tuple #[I,J,.bool true]) F H)
theorem Zds (C:CT) (j:Value) (g:G) (n:Nat) (K:Cont):Xdc C j g n K=Qe Tryz.prog C Xaq [j] g n K:=by kernel_rfl
def Jbh (C:CT) (K:Cont) (I_l1:Qk) (t:Env) (g:G) (n:Nat):Prop:=
Jb .int .geq (t 8) (.int .i64 0) λB=>
Qa B (
Xf (t 0) λE=>
Xc E λF H=>
(C QD [t 0,t 8] g n λI J M=>
Ji (ptr F (H+0)) I 16 5 λO=>
Xc O λP Q=>
Ql J P Q 5 λR=>
Zl [.int .i64 0,.int .i64 0,.int .i64 0,.int .u64 0,.bool false] .exact J M λT U V=>
(Xc O λl _=>U l=J l)∧Jj (.agg R.toArray) λJ=>
J.length=5∧Qu U T 0 J λJ=>
kLd J T (0+0) λU=>
Jb .int .eql U (.int .i64 9) λW=>
Qa W (
kLd J T (0+1) λX=>
Jb .int .eql X (t 1) λY=>
Qa Y (
kLd J T (0+2) λZ=>
Jb .int .eql Z (t 2) λj=>
Qa j (
kLd J T (0+3) λw=>
Zc K (.tuple #[w,.bool true]) J V) (
Jb .int .sub (t 8) (.int .i64 1) λAA=>
I_l1 (puts t [(13,t 8),(14,B),(17,t 0),(18,t 0),(19,t 8),(21,E),(22,(ptr F (H+0))),(20,I),(23,O),(24,.agg R.toArray),(9,ptr T 0),(25,(ptr T (0+0))),(26,U),(27,W),(28,.bool true),(29,(ptr T (0+1))),(30,X),(31,t 1),(32,Y),(33,Y),(34,.bool true),(35,(ptr T (0+2))),(36,Z),(37,t 2),(38,j),(39,j),(15,t 8),(16,AA),(8,AA)]) J V)) (
Jb .int .sub (t 8) (.int .i64 1) λAA=>
I_l1 (puts t [(13,t 8),(14,B),(17,t 0),(18,t 0),(19,t 8),(21,E),(22,(ptr F (H+0))),(20,I),(23,O),(24,.agg R.toArray),(9,ptr T 0),(25,(ptr T (0+0))),(26,U),(27,W),(28,.bool true),(29,(ptr T (0+1))),(30,X),(31,t 1),(32,Y),(33,Y),(34,.bool false),(35,undef),(36,undef),(37,undef),(38,undef),(39,.bool false),(15,t 8),(16,AA),(8,AA)]) J V)) (
Jb .int .sub (t 8) (.int .i64 1) λAA=>
I_l1 (puts t [(13,t 8),(14,B),(17,t 0),(18,t 0),(19,t 8),(21,E),(22,(ptr F (H+0))),(20,I),(23,O),(24,.agg R.toArray),(9,ptr T 0),(25,(ptr T (0+0))),(26,U),(27,W),(28,.bool false),(29,undef),(30,undef),(31,undef),(32,undef),(33,.bool false),(34,.bool false),(35,undef),(36,undef),(37,undef),(38,undef),(39,.bool false),(15,t 8),(16,AA),(8,AA)]) J V))∧(Zl [.int .i64 0,.int .i64 0,.int .i64 0,.int .u64 0,.bool false] .exact g n λT J V=>
C QD [t 0,t 8] J V λI J M=>
Ji (ptr F (H+0)) I 16 5 λO=>
Xc O λP Q=>
Ql J P Q 5 λR=>
Jj (.agg R.toArray) λP=>
P.length=5∧Qu J T 0 P λJ=>
kLd J T (0+0) λU=>
Jb .int .eql U (.int .i64 9) λW=>
Qa W (
kLd J T (0+1) λX=>
Jb .int .eql X (t 1) λY=>
Qa Y (
kLd J T (0+2) λZ=>
Jb .int .eql Z (t 2) λj=>
Qa j (
kLd J T (0+3) λw=>
Zc K (.tuple #[w,.bool true]) J M) (
Jb .int .sub (t 8) (.int .i64 1) λAA=>
I_l1 (puts t [(13,t 8),(14,B),(17,t 0),(18,t 0),(19,t 8),(21,E),(22,(ptr F (H+0))),(9,ptr T 0),(20,I),(23,O),(24,.agg R.toArray),(25,(ptr T (0+0))),(26,U),(27,W),(28,.bool true),(29,(ptr T (0+1))),(30,X),(31,t 1),(32,Y),(33,Y),(34,.bool true),(35,(ptr T (0+2))),(36,Z),(37,t 2),(38,j),(39,j),(15,t 8),(16,AA),(8,AA)]) J M)) (
Jb .int .sub (t 8) (.int .i64 1) λAA=>
I_l1 (puts t [(13,t 8),(14,B),(17,t 0),(18,t 0),(19,t 8),(21,E),(22,(ptr F (H+0))),(9,ptr T 0),(20,I),(23,O),(24,.agg R.toArray),(25,(ptr T (0+0))),(26,U),(27,W),(28,.bool true),(29,(ptr T (0+1))),(30,X),(31,t 1),(32,Y),(33,Y),(34,.bool false),(35,undef),(36,undef),(37,undef),(38,undef),(39,.bool false),(15,t 8),(16,AA),(8,AA)]) J M)) (
Jb .int .sub (t 8) (.int .i64 1) λAA=>
I_l1 (puts t [(13,t 8),(14,B),(17,t 0),(18,t 0),(19,t 8),(21,E),(22,(ptr F (H+0))),(9,ptr T 0),(20,I),(23,O),(24,.agg R.toArray),(25,(ptr T (0+0))),(26,U),(27,W),(28,.bool false),(29,undef),(30,undef),(31,undef),(32,undef),(33,.bool false),(34,.bool false),(35,undef),(36,undef),(37,undef),(38,undef),(39,.bool false),(15,t 8),(16,AA),(8,AA)]) J M))) (
Zc K (.tuple #[.int .u64 0,.bool false]) g n)
def ZbX (C:CT) (B E F:Value) (g:G) (n:Nat) (K:Cont):Prop:=
C JD [B] g n λH I J=>
Jb .int .sub H (.int .i64 1) λM=>
lfp (Jbh C K) (puts (Qi [B,E,F]) [(6,.int .u64 0),(7,.bool false),(10,B),(11,H),(12,M),(8,M)]) I J
theorem ZcJ (C:CT) (j I E:Value) (g:G) (n:Nat) (K:Cont):ZbX C j I E g n K=Qe Tryz.prog C ZaF [j,I,E] g n K:=by kernel_rfl
def ZbV (C:CT) (B E:Value) (g:G) (n:Nat) (K:Cont):Prop:=
Jj E λc3=>
Zl c3 .exact g n λl3 E n3=>
Jb .ptr .eql B (.pointer none) λF=>
Qa F (
Zc K (.int .i64 1) E n3) (
Ql E l3 0 5 λF=>
C Zb5 [.agg F.toArray] E n3 λE F H=>
kUn .not E λE=>
Qa E (
Zc K (.int .i64 11) F H) (
Xf B λE=>
Xc E λE I=>
kLd F E (I+82) λE=>
Xf B λI=>
Xc I λI J=>
kLd F I (J+80) λI=>
Jb .int .geq E I λE=>
Qa E (
Zc K (.int .i64 13) F H) (
Xf B λE=>
Xc E λE I=>
kLd F E (I+82) λE=>
Ql F l3 0 5 λI=>
Xf B λJ=>
Xc J λJ M=>
C QD [B,E] F H λE H O=>
(Xc (ptr l3 0) λl _=>H l=F l)∧Ji (ptr J (M+0)) E 16 5 λE=>
Xc E λE F=>
Jj (.agg I.toArray) λI=>
I.length=5∧Qu H E F I λE=>
Xf B λF=>
Xc F λF H=>
kLd E F (H+82) λF=>
Jb .int .add F (.int .i64 1) λF=>
Xf B λB=>
Xc B λB H=>
kSt E B (H+82) F λB=>
Zc K (.int .i64 0) B O)))
theorem QcI (C:CT) (j E:Value) (g:G) (n:Nat) (K:Cont):ZbV C j E g n K=Qe Tryz.prog C JaE [j,E] g n K:=by kernel_rfl
def Qb8 (C:CT) (B:Value) (g:G) (n:Nat) (K:Cont):Prop:=
Xf B λE=>
Xc E λl5 o5=>
kLd g l5 (o5+0) λE=>
Xf E λE=>
Xc E λE F=>
kLd g E (F+11) λE=>
C JD [E] g n λE F H=>
Jb .int .eql E (.int .i64 0) λE=>
Qa E (
Xf B λB=>
Xc B λB E=>
kLd F B (E+0) λB=>
Xf B λB=>
Xc B λB E=>
kLd F B (E+12) λB=>
Jb .int .eql B (.int .i64 0) λB=>
Zc K B F H) (
Zc K (.bool false) F H)
theorem ZcZ (C:CT) (j:Value) (g:G) (n:Nat) (K:Cont):Qb8 C j g n K=Qe Tryz.prog C Zal [j] g n K:=by kernel_rfl
def Zhk (C:CT) (B E F:Value) (g:G) (n:Nat) (K:Cont):Prop:=
C Xcg [] g n λH I J=>
Qce .i64 H B (.agg #[.nilFunc]) true I λB=>
Qc B 0 λH=>
Qc B 1 λB=>
Zl [.nilFunc] .exact I J λI J M=>
Jj H λH=>
H.length=1∧Qu J I 0 H λH=>
kUn .not B λB=>
Qa B (
Zc K (.tuple #[.int .u64 0,.bool false]) H M) (
kLd H I (0+0) λB=>
Qbu C B [E,F] H M λB E F=>
Zc K (.tuple #[B,.bool true]) E F)
theorem Xgp (C:CT) (j I E:Value) (g:G) (n:Nat) (K:Cont):Zhk C j I E g n K=Qe Tryz.prog C XdE [j,I,E] g n K:=by kernel_rfl
def Zfp (C:CT) (B E F:Value) (g:G) (n:Nat) (K:Cont):Prop:=
Jb .int .eql B (.int .i64 17) λH=>
Qa H (
Zc K (.tuple #[.bool true,.bool true]) g n) (
Jb .int .eql B (.int .i64 18) λH=>
Qa H (
Jb .int .eql E F λH=>
Zc K (.tuple #[H,.bool true]) g n) (
Jb .int .eql B (.int .i64 19) λH=>
Qa H (
Jb .int .neq E F λH=>
Zc K (.tuple #[H,.bool true]) g n) (
Jb .int .eql B (.int .i64 20) λB=>
Qa B (
Jb .int .lss E F λB=>
Zc K (.tuple #[B,.bool true]) g n) (
Zc K (.tuple #[.bool false,.bool false]) g n))))
theorem ZeY (C:CT) (j I E:Value) (g:G) (n:Nat) (K:Cont):Zfp C j I E g n K=Qe Tryz.prog C Xcz [j,I,E] g n K:=by kernel_rfl
def JgJ (C:CT) (B:Value) (g:G) (n:Nat) (K:Cont):Prop:=
C Xc0 [B] g n λE F n5=>
kUn .not E λE=>
Qa E (
Zc K (.string ⟨#[]⟩) F n5) (
Zl [.int .u32 0,.int .i32 0,.int .u32 0,.string .empty,.string .empty,.string .empty,.string .empty,.string .empty,.string .empty,.string .empty,.string .empty,.string .empty,.string .empty,.string .empty,.string .empty,.string .empty,.string .empty,.string .empty,.string .empty,.string .empty,.string .empty,.string .empty,.string .empty,.string .empty,.string .empty,.string .empty] .exact F n5 λl3 E n3=>
C Xbj [(ptr l3 (0+0)),(.func (.func Zc8) #[ptr l3 0] #[])] E n3 λE E F=>
Ji (ptr l3 (0+3)) B 23 1 λB=>
Xc B λB H=>
kLd E B H λB=>
Zc K B E F)
theorem QfZ (C:CT) (j:Value) (g:G) (n:Nat) (K:Cont):JgJ C j g n K=Qe Tryz.prog C Qn [j] g n K:=by kernel_rfl
def Xhn (C:CT) (B:Value) (g:G) (n:Nat) (K:Cont):Prop:=
Jb .int .geq B (.int .i64 0) λE=>
Qa E (
Jb .int .leq B (.int .i64 22) λB=>
Zc K B g n) (
Zc K (.bool false) g n)
theorem JgK (C:CT) (j:Value) (g:G) (n:Nat) (K:Cont):Xhn C j g n K=Qe Tryz.prog C Xc0 [j] g n K:=by kernel_rfl
def Zdb (C:CT) (B E:Value) (g:G) (n:Nat) (K:Cont):Prop:=
Jb .int .eql B (.int .i64 0) λF=>
Qa F (
Zc K (.bool true) g n) (
Qa E (
Jb .int .gtr B (.int .i64 0) λE=>
Qa E (
Jb .int .lss B (.int .i64 8) λB=>
Zc K B g n) (
Zc K (.bool false) g n)) (
Zc K (.bool false) g n))
theorem Xdt (C:CT) (j E:Value) (g:G) (n:Nat) (K:Cont):Zdb C j E g n K=Qe Tryz.prog C Zap [j,E] g n K:=by kernel_rfl
def Xey (C:CT) (B:Value) (g:G) (n:Nat) (K:Cont):Prop:=
Jb .int .geq B (.int .i64 17) λE=>
Qa E (
Jb .int .leq B (.int .i64 20) λB=>
Zc K B g n) (
Zc K (.bool false) g n)
theorem JeB (C:CT) (j:Value) (g:G) (n:Nat) (K:Cont):Xey C j g n K=Qe Tryz.prog C Jcc [j] g n K:=by kernel_rfl
def ZgN (C:CT) (B E:Value) (g:G) (n:Nat) (K:Cont):Prop:=
Jb .int .lss B (.int .i64 1) λF=>
Qa F (
Zc K (.tuple #[.int .i64 0,.int .i64 0,.int .i64 1]) g n) (
Jb .int .gtr B (.int .i64 64) λF=>
Qa F (
Zc K (.tuple #[.int .i64 0,.int .i64 0,.int .i64 1]) g n) (
Jb .int .rem E (.int .u64 8) λF=>
Jb .int .neq F (.int .u64 0) λF=>
Qa F (
Zc K (.tuple #[.int .i64 0,.int .i64 0,.int .i64 12]) g n) (
XaQ .u64 B λB=>
Jb .int .mul B (.int .u64 64) λB=>
Jb .int .geq E B λB=>
Qa B (
Zc K (.tuple #[.int .i64 0,.int .i64 0,.int .i64 12]) g n) (
Jb .int .quo E (.int .u64 64) λB=>
XaQ .i64 B λB=>
Jb .int .rem E (.int .u64 64) λE=>
Jb .int .quo E (.int .u64 8) λE=>
XaQ .i64 E λE=>
Zc K (.tuple #[B,E,.int .i64 0]) g n))))
theorem QfF (C:CT) (j E:Value) (g:G) (n:Nat) (K:Cont):ZgN C j E g n K=Qe Tryz.prog C Qc9 [j,E] g n K:=by kernel_rfl
def Jgy (C:CT) (B E:Value) (g:G) (n:Nat) (K:Cont):Prop:=
XaQ .u64 E λE=>
Jb .int .add B E λB=>
Zc K B g n
theorem Jf3 (C:CT) (j E:Value) (g:G) (n:Nat) (K:Cont):Jgy C j E g n K=Qe Tryz.prog C Jc5 [j,E] g n K:=by kernel_rfl
def Qa0 (C:CT) (K:Cont) (t:Env) (g:G) (n:Nat):Prop:=
Qa (t 29) (
Xc (t 1) λB E=>
kLd g B (E+2) λB=>
Jb .int .eql B (.int .i64 0) λB=>
Qa B (
Xc (t 1) λB E=>
kLd g B (E+3) λB=>
Jb .int .eql B (.int .u64 0) λB=>
Zc K B g n) (
Zc K (.bool false) g n)) (
Zc K (.bool false) g n)
def Jey (C:CT) (B:Value) (g:G) (n:Nat) (K:Cont):Prop:=
Jj B λc1=>
Zl c1 .exact g n λl1 E n1=>
kLd E l1 (0+1) λF=>
Jb .int .lss F (.int .i64 0) λH=>
Qa H (
Zc K (.bool false) E n1) (
kLd E l1 (0+1) λI=>
Jb .int .geq I (.int .i64 64) λJ=>
Qa J (
Zc K (.bool false) E n1) (
kLd E l1 (0+2) λM=>
Jb .int .lss M (.int .i64 0) λO=>
Qa O (
Zc K (.bool false) E n1) (
kLd E l1 (0+2) λP=>
Jb .int .geq P (.int .i64 8) λQ=>
Qa Q (
Zc K (.bool false) E n1) (
kLd E l1 (0+4) λR=>
Qa R (
Zc K (.bool false) E n1) (
kLd E l1 (0+0) λT=>
Jb .int .eql T (.int .i64 9) λU=>
Qa U (
Zc K (.bool true) E n1) (
Jb .int .eql T (.int .i64 12) λV=>
Qa V (
Qa0 C K (puts (Qi [B]) [(1,ptr l1 0),(2,.bool false),(3,(ptr l1 (0+1))),(4,F),(5,H),(6,.bool false),(7,(ptr l1 (0+1))),(8,I),(9,J),(10,J),(11,.bool false),(12,(ptr l1 (0+2))),(13,M),(14,O),(15,O),(16,.bool false),(17,(ptr l1 (0+2))),(18,P),(19,Q),(20,Q),(21,.bool false),(22,(ptr l1 (0+4))),(23,R),(24,R),(25,(ptr l1 (0+0))),(26,T),(28,U),(27,U),(30,V),(29,V)]) E n1) (
Jb .int .eql T (.int .i64 13) λW=>
Qa W (
Qa0 C K (puts (Qi [B]) [(1,ptr l1 0),(2,.bool false),(3,(ptr l1 (0+1))),(4,F),(5,H),(6,.bool false),(7,(ptr l1 (0+1))),(8,I),(9,J),(10,J),(11,.bool false),(12,(ptr l1 (0+2))),(13,M),(14,O),(15,O),(16,.bool false),(17,(ptr l1 (0+2))),(18,P),(19,Q),(20,Q),(21,.bool false),(22,(ptr l1 (0+4))),(23,R),(24,R),(25,(ptr l1 (0+0))),(26,T),(28,U),(27,U),(30,V),(29,V),(31,W),(29,W)]) E n1) (
Jb .int .eql T (.int .i64 14) λX=>
Qa0 C K (puts (Qi [B]) [(1,ptr l1 0),(2,.bool false),(3,(ptr l1 (0+1))),(4,F),(5,H),(6,.bool false),(7,(ptr l1 (0+1))),(8,I),(9,J),(10,J),(11,.bool false),(12,(ptr l1 (0+2))),(13,M),(14,O),(15,O),(16,.bool false),(17,(ptr l1 (0+2))),(18,P),(19,Q),(20,Q),(21,.bool false),(22,(ptr l1 (0+4))),(23,R),(24,R),(25,(ptr l1 (0+0))),(26,T),(28,U),(27,U),(30,V),(29,V),(31,W),(29,W),(32,X),(29,X)]) E n1))))))))
theorem QeP (C:CT) (j:Value) (g:G) (n:Nat) (K:Cont):Jey C j g n K=Qe Tryz.prog C Zb5 [j] g n K:=by kernel_rfl
def ZeA (C:CT) (g:G) (n:Nat) (K:Cont):Prop:=
ZeV (.map []) g n λl1 B n1=>
Qf [.nilFunc] [(0,none,(.func (.func ZC) #[] #[]))] λc2=>
ZaV .i64 (.map (some l1)) (.int .i64 2) (.agg c2.toArray) B λB=>
Qf [.nilFunc] [(0,none,(.func (.func QJ) #[] #[]))] λc3=>
ZaV .i64 (.map (some l1)) (.int .i64 3) (.agg c3.toArray) B λB=>
Qf [.nilFunc] [(0,none,(.func (.func QW) #[] #[]))] λc4=>
ZaV .i64 (.map (some l1)) (.int .i64 4) (.agg c4.toArray) B λB=>
Qf [.nilFunc] [(0,none,(.func (.func X7) #[] #[]))] λc5=>
ZaV .i64 (.map (some l1)) (.int .i64 5) (.agg c5.toArray) B λB=>
Qf [.nilFunc] [(0,none,(.func (.func Xaj) #[] #[]))] λc6=>
ZaV .i64 (.map (some l1)) (.int .i64 6) (.agg c6.toArray) B λB=>
Qf [.nilFunc] [(0,none,(.func (.func ZaA) #[] #[]))] λc7=>
ZaV .i64 (.map (some l1)) (.int .i64 7) (.agg c7.toArray) B λB=>
Zc K (.map (some l1)) B n1
theorem JeM (C:CT) (g:G) (n:Nat) (K:Cont):ZeA C g n K=Qe Tryz.prog C Xcg [] g n K:=by kernel_rfl
def QdQ (C:CT) (B E:Value) (g:G) (n:Nat) (K:Cont):Prop:=
Jb .int .add B E λB=>
Zc K B g n
theorem JdU (C:CT) (j E:Value) (g:G) (n:Nat) (K:Cont):QdQ C j E g n K=Qe Tryz.prog C ZC [j,E] g n K:=by kernel_rfl
def ZdD (C:CT) (B E:Value) (g:G) (n:Nat) (K:Cont):Prop:=
Jb .int .sub B E λB=>
Zc K B g n
theorem XdV (C:CT) (j E:Value) (g:G) (n:Nat) (K:Cont):ZdD C j E g n K=Qe Tryz.prog C QJ [j,E] g n K:=by kernel_rfl
def ZdB (C:CT) (B E:Value) (g:G) (n:Nat) (K:Cont):Prop:=
Jb .int .and B E λB=>
Zc K B g n
theorem XdS (C:CT) (j E:Value) (g:G) (n:Nat) (K:Cont):ZdB C j E g n K=Qe Tryz.prog C QW [j,E] g n K:=by kernel_rfl
def XdC (C:CT) (B E:Value) (g:G) (n:Nat) (K:Cont):Prop:=
Jb .int .xor B E λB=>
Zc K B g n
theorem ZdS (C:CT) (j E:Value) (g:G) (n:Nat) (K:Cont):XdC C j E g n K=Qe Tryz.prog C X7 [j,E] g n K:=by kernel_rfl
def QdN (C:CT) (B E:Value) (g:G) (n:Nat) (K:Cont):Prop:=
Jb .int .rem E (.int .u64 64) λE=>
Jb .int .shl B E λB=>
Zc K B g n
theorem QdW (C:CT) (j E:Value) (g:G) (n:Nat) (K:Cont):QdN C j E g n K=Qe Tryz.prog C Xaj [j,E] g n K:=by kernel_rfl
def Zdx (C:CT) (B E:Value) (g:G) (n:Nat) (K:Cont):Prop:=
Jb .int .rem E (.int .u64 64) λE=>
Jb .int .shr B E λB=>
Zc K B g n
theorem XdT (C:CT) (j E:Value) (g:G) (n:Nat) (K:Cont):Zdx C j E g n K=Qe Tryz.prog C ZaA [j,E] g n K:=by kernel_rfl
end Go.Proofs.YtmchcjaomcdbmaaGreat.Gen
